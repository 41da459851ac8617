/- A region that draws its order with one store ahead of its forced tail: the store only waits for what it needs; the other operations do not look at what it writes. -/
import Derived.Test.YtlhjcleejolbiaaObR
set_option linter.unusedVariables false
set_option linter.unusedSimpArgs false
set_option linter.unusedSectionVars false
namespace Go.Ob
open Go.RowKit
section
variable {P : Program} {ops pre : Array Oper} {md : Region.Mode} {H Hs H2 H' H2' : Hp} {n m : Nat}

theorem Pure.frame {o : Oper} {env : Env} {d : D} (hs : SplitR H Hs H2) (h : Pure P Hs o env d) : Pure P H o env d :=
  fun w F a hh hF hx r next Q hn => h w (both F H2) a (hh.part hs) (part_F hh hs hF)
    (fun x hxm dx hd => (hx x hxm dx hd).fewer fun g hg => part_set hs hg) r next Q fun v w' hr k => hn v w' (hr.fewer fun g hg => by
      rcases hg with h | h
      · exact .inl (.inl h)
      · rcases (hs.own g).1 h with h | h
        · exact .inr h
        · exact .inl (.inr h)) k

theorem anyA_final {Qp : Env → Prop} (ht : TailP md ops (m + 1)) (hpre : ∀ i, i < m → pre[i]? = ops[i]?) (hpz : pre.size = m) :
    ∀ (fuel : Nat) (L : Array Bool) (env : Env), L.size = m → L.toList.count false = fuel → anyA P md pre Hs n Qp fuel L env →
      ∃ envF, Qp envF ∧ ∀ t, (∀ i o, pre[i]? = some o → L.getD i true = false → o.dst ≠ some t) → envF t = env t := by
  intro fuel
  induction fuel with
  | zero => intro L env hL hc h; exact ⟨env, h.2, fun t _ => rfl⟩
  | succ fuel ih =>
    intro L env hL hc h
    obtain ⟨i, hi, hif, hib⟩ := first_false (L := L) (by omega)
    have hipre : i < pre.size := by omega
    have hir : i ∈ Region.ready md pre L := mem_ready.2 ⟨hif, pre[i], Array.getElem?_eq_getElem hipre, fun e he hb => by
      have hlt := ht.back i pre[i] (by rw [← hpre i (by omega)]; exact Array.getElem?_eq_getElem hipre) e he hb
      exact hib _ hlt⟩
    have h1 := h.2 i hir
    have hc' : (L.setIfInBounds i true).toList.count false = fuel := by
      have hjl2 : i < L.toList.length := by simpa using hi
      have e1 : (L.setIfInBounds i true).toList = L.toList.set i true := by simp
      rw [e1, List.count_set hjl2]
      have : L.toList[i] = false := by simpa [Array.getD_eq_getD_getElem?, Array.getElem?_eq_getElem hi] using hif
      rw [this]
      simp only [beq_self_eq_true, if_true]
      have : (true == false) = false := rfl
      rw [this]
      simp only [Bool.false_eq_true, if_false]
      omega
    unfold qA at h1
    simp only [Array.getElem?_eq_getElem hipre] at h1
    have fin : ∀ od, anyA P md pre Hs n Qp fuel (L.setIfInBounds i true) (env.putO pre[i].dst od) → ∃ envF, Qp envF ∧ ∀ t, (∀ i o, pre[i]? = some o → L.getD i true = false → o.dst ≠ some t) → envF t = env t := fun od hk => by
      obtain ⟨envF, hq, hf⟩ := ih _ _ (by simpa using hL) hc' hk
      refine ⟨envF, hq, fun t ht' => ?_⟩
      rw [hf t fun i' o' ho' hl' => ht' i' o' ho' (by
        by_cases hii : i = i'
        · subst hii; exact hif
        · rwa [getD_set_ne true hii] at hl')]
      have := ht' i pre[i] (Array.getElem?_eq_getElem hipre) hif
      cases hd : pre[i].dst with
      | none => rfl
      | some d =>
        rw [hd] at this
        exact Env.put_other fun e => this (by rw [e])
    rcases h1.2 with ⟨hw, d, hp, hk⟩ | ⟨hw, hk⟩
    · exact fin _ hk
    · exact fin _ hk

/-- Whoever sets an operand of s comes before it. -/
def feeds (md : Region.Mode) (ops : Array Oper) (m : Nat) (s : Oper) : Bool :=
  s.op.operands.all fun x => match x with
    | .tmp t => (List.range m).all fun i => match ops[i]? with
      | none => true
      | some o => match o.dst with
        | none => true
        | some d => !Nat.beq d t || bindsOn md ops m i
    | _ => true

theorem push_set {L : Array Bool} {b : Bool} {j : Nat} (hj : j < L.size) : (L.push b).setIfInBounds j true = (L.setIfInBounds j true).push b := by
  apply Array.ext'
  simp [List.set_append, hj]
theorem push_set_last {L : Array Bool} {b : Bool} : (L.push b).setIfInBounds L.size true = L.push true := by
  apply Array.ext'
  simp [List.set_append]

theorem wpAny_store {K : Ctx} {Qp : Env → Prop} {Q' : Exit → Act → World → Prop} {s : Oper} (ht : TailP md ops (m + 1)) (hpre : ∀ i, i < m → pre[i]? = ops[i]?) (hpz : pre.size = m) (f : Nat)
    (hs : ops[m]? = some s) (hsg : s.guard = none) (hfd : feeds md ops m s = true) (hsp : SplitR H Hs H2) (hsp' : SplitR H' Hs H2')
    (hst : ∀ env envF a w (next : Act → World → Prop), Qp envF → (∀ x ∈ s.op.operands, opD env x = opD envF x) → Sat K env H a w → (∀ a' w', Sat K env H' a' w' → next a' w') → s.wpIn (fen K.r) 0 K.P a w next Q')
    (hQ : ∀ env a w, Qp env → Sat K env H' a w → wpAnyIn (fen K.r) 0 K.P md ops Q' f (lst (Array.replicate (m + 1) true) (ops.size - (m + 1))) a w) :
    ∀ (fuel : Nat) (L : Array Bool) (b : Bool) (env : Env) (a : Act) (w : World), L.size = m → Down md ops (L.push b) → (L.push b).toList.count false = fuel → Sat K env (if b then H' else H) a w → anyA K.P md pre Hs K.n Qp (L.toList.count false) L env →
      wpAnyIn (fen K.r) 0 K.P md ops Q' (fuel + f) (lst (L.push b) (ops.size - (m + 1))) a w := by
  have hpre' : ∀ i o, pre[i]? = some o → ops[i]? = some o := fun i o h => by rw [← hpre i (by rw [← hpz]; exact (Array.getElem?_eq_some_iff.1 h).1)]; exact h
  have hfr : ∀ b : Bool, ∃ Hx, SplitR (if b then H' else H) Hs Hx := fun b => by
    cases b
    · exact ⟨_, hsp⟩
    · exact ⟨_, hsp'⟩
  intro fuel
  induction fuel with
  | zero =>
    intro L b env a w hL hd hc hsat h
    have hall := all_true hc
    have hsz : (L.push b).size = m + 1 := by simp [hL]
    have hb : b = true := by
      cases b with
      | true => rfl
      | false => simp at hc
    subst hb
    have hc0 : L.toList.count false = 0 := by simpa using hc
    rw [hc0] at h
    rw [Nat.zero_add, hall, hsz]
    exact hQ env a w h.2 hsat
  | succ fuel ih =>
    intro L b env a w hL hd hc hsat h
    have hL' : (L.push b).size = m + 1 := by simp [hL]
    obtain ⟨i, hi, hif, hib⟩ := first_false (L := L.push b) (by omega)
    have hif' : (L.push b).getD i false = false := by
      simp only [Array.getD_eq_getD_getElem?, Array.getElem?_eq_getElem hi, Option.getD_some] at hif ⊢
      exact hif
    have hiops : i < ops.size := by have := ht.lt; omega
    have hir : i ∈ Region.ready md ops (lst (L.push b) (ops.size - (m + 1))) := mem_ready.2 ⟨by rw [lst_get true hi]; exact hif, ops[i], Array.getElem?_eq_getElem hiops, fun e he hb => by
      have hlt := ht.back i _ (Array.getElem?_eq_getElem hiops) e he hb
      rw [lst_get false (by omega)]
      exact hib _ hlt⟩
    rw [show fuel + 1 + f = (fuel + f) + 1 by omega]
    refine ⟨fun h0 => (by rw [h0] at hir; cases hir), fun j hj => ?_⟩
    have hjm : j < m + 1 := ready_pre ht hL' hd hj (hL' ▸ hi) hif'
    obtain ⟨hjl, o, ho, hall⟩ := mem_ready.1 hj
    rw [lst_get true (by omega)] at hjl
    have hdown : Down md ops ((L.push b).setIfInBounds j true) := fun j' o' ho' hl' e he hb => by
      by_cases hjj : j = j'
      · subst hjj
        rw [ho] at ho'; cases ho'
        have hlt := ht.back j o ho e he hb
        have := hall e he hb
        rw [lst_get false (by omega)] at this
        exact getD_set_true this
      · rw [getD_set_ne false hjj] at hl'
        exact getD_set_true (hd j' o' ho' hl' e he hb)
    have hcnt : ((L.push b).setIfInBounds j true).toList.count false = fuel := by
      have hjl2 : j < (L.push b).toList.length := by simpa using (by omega : j < L.size + 1)
      have e1 : ((L.push b).setIfInBounds j true).toList = (L.push b).toList.set j true := by simp
      rw [e1, List.count_set hjl2]
      have : (L.push b).toList[j] = false := by
        have : (L.push b)[j]'(by omega) = false := by simpa [Array.getD_eq_getD_getElem?, Array.getElem?_eq_getElem (show j < (L.push b).size by omega)] using hjl
        rw [Array.getElem_toList]; exact this
      rw [this]
      simp only [beq_self_eq_true, if_true]
      have : (true == false) = false := rfl
      rw [this]
      simp only [Bool.false_eq_true, if_false]
      omega
    rcases Nat.lt_or_ge j m with hjlt | hjge
    · -- one that only reads
      have hjo : pre[j]? = some o := by rw [hpre j hjlt]; exact ho
      have hjf : L.getD j true = false := by
        simpa [Array.getD_eq_getD_getElem?, Array.getElem?_push, show ¬ j = L.size by omega] using hjl
      have hjr : j ∈ Region.ready md pre L := mem_ready.2 ⟨hjf, o, hjo, fun e he hb => by
        have hlt := ht.back j o ho e he hb
        have := hall e he hb
        rw [lst_get false (by omega)] at this
        simpa [Array.getD_eq_getD_getElem?, Array.getElem?_push, show ¬ e.on = L.size by omega] using this⟩
      have hjL : j < L.size := by omega
      have hcl : ∃ c, L.toList.count false = c + 1 ∧ (L.setIfInBounds j true).toList.count false = c := by
        have hjl2 : j < L.toList.length := by simpa using hjL
        have hLj : L.toList[j] = false := by
          have : L[j] = false := by simpa [Array.getD_eq_getD_getElem?, Array.getElem?_eq_getElem hjL] using hjf
          simpa using this
        have hpos : 0 < L.toList.count false := List.count_pos_iff.2 (hLj ▸ List.getElem_mem hjl2)
        refine ⟨L.toList.count false - 1, by omega, ?_⟩
        have e1 : (L.setIfInBounds j true).toList = L.toList.set j true := by simp
        rw [e1, List.count_set hjl2, hLj]
        simp only [beq_self_eq_true, if_true]
        have : (true == false) = false := rfl
        rw [this]
        simp only [Bool.false_eq_true, if_false]
        omega
      obtain ⟨c, hc1, hc2⟩ := hcl
      rw [hc1] at h
      have h1 := h.2 j hjr
      rw [push_set hjL] at hdown hcnt
      have hnext : ∀ env' a' w', Sat K env' (if b then H' else H) a' w' → anyA K.P md pre Hs K.n Qp c (L.setIfInBounds j true) env' → wpAnyIn (fen K.r) 0 K.P md ops Q' (fuel + f) ((lst (L.push b) (ops.size - (m + 1))).setIfInBounds j true) a' w' := fun env' a' w' hs' h' => by
        rw [lst_set (by omega), push_set hjL]
        exact ih _ b env' a' w' (by simpa using hL) hdown hcnt hs' (by rw [hc2]; exact h')
      obtain ⟨Hx, hHx⟩ := hfr b
      unfold qA at h1
      simp only [hjo] at h1
      unfold wpOpIn
      simp only [ho]
      obtain ⟨hdn, h1⟩ := h1
      rcases h1 with ⟨hw, d, hp, hk⟩ | ⟨hw, hk⟩
      · have hw' := hw.of_pre hpre'
        rw [if_pos (hw'.wanted hsat)]
        exact (hp.frame hHx).wp hsat hdn fun a' w' hs' => hnext _ _ _ hs' hk
      · have hw' := hw.of_pre hpre'
        rw [if_neg (by rw [hw'.wanted hsat]; simp)]
        exact ⟨fun _ _ => trivial, hnext _ _ _ (hsat.put (Kept.refl _ _) hdn (fun d hd => by cases hd; exact .v _)) hk⟩
    · -- the store
      obtain rfl : j = m := by omega
      rw [hs] at ho; cases ho
      have hbf : b = false := by
        have e : (L.push b).getD L.size true = b := by simp [Array.getD_eq_getD_getElem?]
        rw [← hL] at hjl
        rwa [e] at hjl
      subst hbf
      obtain ⟨envF, hqF, hF⟩ := anyA_final ht hpre hpz _ L env hL rfl h
      unfold wpOpIn
      simp only [hs]
      rw [if_pos (by unfold Region.wanted; rw [hsg])]
      refine hst env envF a w _ hqF (fun x hx => ?_) hsat fun a' w' hs' => ?_
      · cases x with
        | tmp t =>
          refine (hF t fun i' o' ho' hl' hdst => ?_).symm
          have hi' : i' < j := by rw [← hpz]; exact (Array.getElem?_eq_some_iff.1 ho').1
          have hfe := List.all_eq_true.1 ((Array.all_eq_true_iff_forall_mem.1 hfd) _ hx) i' (List.mem_range.2 hi')
          simp only [hpre' i' o' ho', hdst, Nat.beq_refl, Bool.not_true, Bool.false_or] at hfe
          obtain ⟨o2, ho2, e, he, hb, heq⟩ := bindsOn_spec hfe
          rw [hs] at ho2; cases ho2
          have := hall e he hb
          rw [heq, lst_get false (by omega)] at this
          have h2 : L.getD i' false = true := by simpa [Array.getD_eq_getD_getElem?, Array.getElem?_push, show ¬ i' = L.size by omega] using this
          have hiL : i' < L.size := by omega
          simp only [Array.getD_eq_getD_getElem?, Array.getElem?_eq_getElem hiL, Option.getD_some] at h2 hl'
          rw [h2] at hl'; cases hl'
        | _ => rfl
      · rw [lst_set (by omega), ← hL, push_set_last]
        rw [← hL, push_set_last] at hdown hcnt
        rw [hL]
        exact ih L true env a' w' hL hdown hcnt hs' h
end
section
variable {K : Ctx} {Q : Exit → Env → Hp → Prop} {env : Env} {H H' Hs H2 H2' : Hp}
theorem TC.drawStore {id : Nat} {l : List Oper} (m : Nat) {s : Oper} (H' Hs H2 H2' : Hp) (hm : K.P.follows .mixedOrders = true) (hl : l.toArray[m]? = some s) (hsg : s.guard = none) (hfd : feeds .any l.toArray m s = true)
    (hB : Region.lexFrom .any (l.take m).toArray (l.take m).length 0 (Array.replicate (l.take m).length false) = true) (ht : tailB .any l.toArray (m + 1) = true) (hsp : SplitR H Hs H2) (hsp' : SplitR H' Hs H2')
    (Qp : Env → Prop) (hst : ∀ env envF, Qp envF → (∀ x ∈ s.op.operands, opD env x = opD envF x) → ∀ a w (next : Act → World → Prop) (Q' : Exit → Act → World → Prop), Sat K env H a w → (∀ a' w', Sat K env H' a' w' → next a' w') → s.wpIn (fen K.r) 0 K.P a w next Q')
    (h : TD K (l.take m).toArray (l.take m) (fun _ e _ => Qp e ∧ TL K l.toArray (l.drop (m + 1)) Q e H') env Hs) : TC K (.region id l.toArray true) Q env H := fun a w hsat => by
  refine wpIn_region_any hm ?_
  have hT := tailP ht
  have hml : m + 1 < l.length := by have := hT.lt; simpa using this
  have htk : (l.take m).length = m := by rw [List.length_take]; omega
  rw [htk] at hB
  have hlex := anyA_lex (P := K.P) (H := Hs) (n := K.n) (md := .any) (ops := (l.take m).toArray) (Q := fun e => Qp e ∧ TL K l.toArray (l.drop (m + 1)) Q e H') (l.take m) 0 (Array.replicate m false) env (by simp) (by rw [htk]; exact hB) h
  rw [htk] at hlex
  have := wpAny_store (K := K) (Qp := fun e => Qp e ∧ TL K l.toArray (l.drop (m + 1)) Q e H') (Q' := liftQ K Q) (pre := (l.take m).toArray) (s := s) hT (fun i hi => by simp [List.getElem?_take, hi]) (by simpa using htk) (l.length - (m + 1)) hl hsg hfd hsp hsp'
    (fun env envF a w next hq hx hs hn => hst env envF hq.1 hx a w next _ hs hn)
    (fun env a w hq hs => by
      have := wpAny_tail (P := K.P) (F := fen K.r) (Q' := liftQ K Q) hT (l.length - (m + 1)) (m + 1) (l.drop (m + 1)) a w (Nat.le_refl _) (by simp; omega) (fun i => by simp [List.getElem?_drop]) (hq.2 a w hs)
      simpa using this) (m + 1) (Array.replicate m false) false env a _ (by simp) (fun j o ho hl => by
        simp only [Array.getD_eq_getD_getElem?, Array.getElem?_push, Array.getElem?_replicate] at hl
        split at hl
        · cases hl
        · split at hl <;> cases hl) (by simp) hsat.drew (by simpa using hlex)
  have e1 : l.toArray.size = (m + 1) + (l.length - (m + 1)) := by simp; omega
  rw [e1]
  have e2 : (Array.replicate m false).push false = Array.replicate (m + 1) false := by simp [Array.replicate_succ]
  rw [e2] at this
  simpa [lst, Array.replicate_append_replicate] using this
end
end Go.Ob
