import Derived.Test.YtlhjcleejolbiaaW3
import Derived.Test.YtlhjcleejolbiaaObX
set_option linter.unusedVariables false
set_option linter.unusedSimpArgs false
namespace Go.Ob
open Go.Proofs
/-! ### a region that draws its order, with operations among its first part that make or write memory -/
theorem Oper.wpIn_both {F : Fence} {n : Nat} {P : Program} {o : Oper} {a : Act} {w : World} {K K' : Act → World → Prop} {Q Q' : Exit → Act → World → Prop} (h : ∀ a w, K a w → K' a w) (hq : ∀ e a w, e ≠ .normal → Q e a w → Q' e a w)
    (hh : o.wpIn F n P a w K Q) : o.wpIn F n P a w K' Q' := by
  unfold Oper.wpIn at *
  refine ⟨hh.1, ?_⟩
  have hh := hh.2
  generalize (o.semAt F.round a.eval).run P w = r at *
  cases r with
  | ok x w' =>
    cases x <;> simp only [Oper.uponIn] at hh ⊢ <;>
      first
        | exact h _ _ hh
        | exact ⟨hh.1, CallsIn.mono hh.2 (fun e w'' he => by cases e <;> first | exact h _ _ he | exact hq _ _ _ (fun h => by cases h) he | (obtain ⟨a, w, hx⟩ := he; exact ⟨a, w, hq _ _ _ (fun h => by cases h) hx⟩))⟩
        | exact ⟨hh.1, RowsIn.mono hh.2 (fun _ _ he => h _ _ he)⟩
        | exact ⟨hh.1, RoundIn.mono hh.2 (fun e w'' he => by cases e <;> first | exact h _ _ he | exact hq _ _ _ (fun h => by cases h) he | (obtain ⟨a, w, hx⟩ := he; exact ⟨a, w, hq _ _ _ (fun h => by cases h) hx⟩))⟩
  | halt x w' => cases x <;> simp only [Oper.uponIn] at hh ⊢ <;> first | exact hh | exact hq _ _ _ (fun h => by cases h) hh
def over : List (Nat × Option D) → Env → Env
  | [], e => e
  | p :: ov, e => (over ov e).put p.1 p.2
def ovp (ov : List (Nat × Option D)) : Option Nat → Option D → List (Nat × Option D)
  | some t, od => (t, od) :: ov
  | none, _ => ov
theorem over_put (ov : List (Nat × Option D)) (e : Env) (dst : Option Nat) (od : Option D) : (over ov e).putO dst od = over (ovp ov dst od) e := by cases dst <;> rfl
theorem over_comm : ∀ (ov : List (Nat × Option D)) (e : Env) (dst : Option Nat) (od : Option D), (∀ t, dst = some t → ∀ p ∈ ov, p.1 ≠ t) → (over ov e).putO dst od = over ov (e.putO dst od)
  | [], _, _, _, _ => rfl
  | p :: ov, e, dst, od, h => by
    rw [over, over, ← over_comm ov e dst od fun t ht q hq => h t ht q (List.mem_cons_of_mem _ hq)]
    exact Env.putO_comm _ (x := some p.1) (y := dst) p.2 od fun d hd hy => by cases hd; exact h _ hy p (by simp) rfl
theorem over_other : ∀ (ov : List (Nat × Option D)) (e : Env) (t : Nat), (∀ p ∈ ov, p.1 ≠ t) → over ov e t = e t
  | [], _, _, _ => rfl
  | p :: ov, e, t, h => by
    rw [over, Env.put_other fun he => h p (by simp) he.symm]
    exact over_other ov e t fun q hq => h q (List.mem_cons_of_mem _ hq)
theorem over_same : ∀ (ov : List (Nat × Option D)) (e e' : Env) (t : Nat), (∃ p ∈ ov, p.1 = t) → over ov e t = over ov e' t
  | [], _, _, _, h => by obtain ⟨p, hp, _⟩ := h; cases hp
  | p :: ov, e, e', t, h => by
    by_cases hp : t = p.1
    · subst hp; rw [over, over, Env.put_same, Env.put_same]
    · rw [over, over, Env.put_other hp, Env.put_other hp]
      refine over_same ov e e' t ?_
      obtain ⟨q, hq, he⟩ := h
      rcases List.mem_cons.1 hq with rfl | hq
      · exact absurd he.symm hp
      · exact ⟨q, hq, he⟩
/-- a special operation, as the walk over those that only read sees it -/
def mute (o : Oper) : Oper := ⟨none, .move (.const undef), o.type, o.pos, o.after, none⟩
def muted (sp : List Nat) : Nat → List Oper → List Oper
  | _, [] => []
  | k, o :: l => (if sp.any (Nat.beq k) then mute o else o) :: muted sp (k + 1) l
theorem muted_len (sp : List Nat) : ∀ (l : List Oper) (k : Nat), (muted sp k l).length = l.length
  | [], _ => rfl
  | o :: l, k => by rw [muted, List.length_cons, List.length_cons, muted_len sp l (k + 1)]
theorem muted_get (sp : List Nat) : ∀ (l : List Oper) (k i : Nat), (muted sp k l)[i]? = (l[i]?).map fun o => if sp.any (Nat.beq (k + i)) then mute o else o
  | [], _, _ => by simp [muted]
  | o :: l, k, i => by
    cases i with
    | zero => simp [muted]
    | succ i => rw [muted, List.getElem?_cons_succ, List.getElem?_cons_succ, muted_get sp l (k + 1) i, show k + 1 + i = k + (i + 1) by omega]
section
variable {K : Ctx} {ops : Array Oper} {Hs : Hp} {Qp : Env → Prop} {Qf : Exit → Env → Hp → Prop} {tl : List Oper}
/-- What the special operations that are left (k of them: rest) do, in whatever order they may come; then the forced tail. -/
def SpOK (K : Ctx) (ops : Array Oper) (Hs : Hp) (Qp : Env → Prop) (Qf : Exit → Env → Hp → Prop) (tl : List Oper) : Nat → List Nat → List (Nat × Option D) → Hp → Prop
  | 0, _, ov, H => (∃ Hx, SplitR H Hs Hx) ∧ ∀ e, Qp e → TL K ops tl Qf (over ov e) H
  | k + 1, rest, ov, H => (∃ Hx, SplitR H Hs Hx) ∧ ∀ s ∈ rest, (∀ i ∈ rest, bindsOn .any ops s i = false) → ∃ o, ops[s]? = some o ∧ o.guard = none ∧
      ∀ E eF, Qp eF → (∀ x ∈ o.op.operands, opD E x = opD (over ov eF) x) → TL K ops [o] (fun e E' H' => e = .normal ∧ ∃ od, E' = E.putO o.dst od ∧ SpOK K ops Hs Qp Qf tl k (rest.erase s) (ovp ov o.dst od) H') E H
theorem SpOK.split {k : Nat} {rest : List Nat} {ov : List (Nat × Option D)} {H : Hp} (h : SpOK K ops Hs Qp Qf tl k rest ov H) : ∃ Hx, SplitR H Hs Hx := by
  cases k <;> exact h.1
/-- no reading operation sets or looks at what a special one sets; whoever sets an operand of a special one comes before it -/
def spB (ops : Array Oper) (m : Nat) (sp : List Nat) : Bool :=
  (List.range m).all (fun i => sp.any (Nat.beq i) || match ops[i]? with
    | none => true
    | some o => sp.all fun s => match ops[s]? with
      | none => true
      | some os => match os.dst with
        | none => true
        | some t => (!((o.looksAt ops).any (Nat.beq t))) && match o.dst with
          | none => true
          | some d => !Nat.beq d t) &&
  sp.all (fun s => Nat.blt s m && match ops[s]? with
    | none => false
    | some os => os.op.operands.all fun x => match x with
      | .tmp t => (List.range m).all fun i => sp.any (Nat.beq i) || match ops[i]? with
        | none => true
        | some o => match o.dst with
          | none => true
          | some d => !Nat.beq d t || bindsOn .any ops s i
      | _ => true)
theorem any_beq {sp : List Nat} {i : Nat} : sp.any (Nat.beq i) = true ↔ i ∈ sp := by
  rw [List.any_eq_true]
  constructor
  · rintro ⟨x, hx, h⟩; rw [Nat.eq_of_beq_eq_true h]; exact hx
  · intro h; exact ⟨i, h, Nat.beq_refl i⟩
structure SpP (ops : Array Oper) (m : Nat) (sp : List Nat) : Prop where
  apart : ∀ i, i < m → i ∉ sp → ∀ o, ops[i]? = some o → ∀ s ∈ sp, ∀ os, ops[s]? = some os → ∀ t, os.dst = some t → t ∉ o.looksAt ops ∧ o.dst ≠ some t
  lt : ∀ s ∈ sp, s < m
  feeds : ∀ s ∈ sp, ∀ os, ops[s]? = some os → ∀ t, .tmp t ∈ os.op.operands → ∀ i, i < m → i ∉ sp → ∀ o, ops[i]? = some o → o.dst = some t → bindsOn .any ops s i = true
theorem spP {m : Nat} {sp : List Nat} (h : spB ops m sp = true) : SpP ops m sp := by
  unfold spB at h
  rw [Bool.and_eq_true] at h
  obtain ⟨h1, h2⟩ := h
  refine ⟨fun i hi hn o ho s hs os hos t ht => ?_, fun s hs => ?_, fun s hs os hos t ht i hi hn o ho hd => ?_⟩
  · have h3 := List.all_eq_true.1 h1 i (List.mem_range.2 hi)
    rw [Bool.or_eq_true] at h3
    rcases h3 with h3 | h3
    · exact absurd (any_beq.1 h3) hn
    simp only [ho] at h3
    have h4 := List.all_eq_true.1 h3 s hs
    simp only [hos, ht, Bool.and_eq_true, Bool.not_eq_true'] at h4
    refine ⟨fun hm => ?_, fun hd => ?_⟩
    · rw [any_beq.2 hm] at h4; exact absurd h4.1 (by simp)
    · rw [hd] at h4; simp at h4
  · have h3 := List.all_eq_true.1 h2 s hs
    rw [Bool.and_eq_true] at h3
    simpa [Nat.blt_eq] using h3.1
  · have h3 := List.all_eq_true.1 h2 s hs
    rw [Bool.and_eq_true] at h3
    have h4 := h3.2
    simp only [hos] at h4
    have h5 := (Array.all_eq_true_iff_forall_mem.1 h4) _ ht
    have h6 := List.all_eq_true.1 h5 i (List.mem_range.2 hi)
    rw [Bool.or_eq_true] at h6
    rcases h6 with h6 | h6
    · exact absurd (any_beq.1 h6) hn
    simpa [ho, hd] using h6
theorem anyA_last {m : Nat} {pre : Array Oper} (hback : ∀ (j : Nat) (o : Oper), pre[j]? = some o → ∀ e ∈ o.after, Region.binds .any e = true → e.on < j) (hpz : pre.size = m) :
    ∀ (fuel : Nat) (L : Array Bool) (env : Env), L.size = m → L.toList.count false = fuel → anyA K.P .any pre Hs K.n Qp fuel L env →
      ∃ envF, Qp envF ∧ ∀ t, (∀ i o, pre[i]? = some o → L.getD i true = false → o.dst ≠ some t) → envF t = env t := by
  intro fuel
  induction fuel with
  | zero => intro L env hL hc h; exact ⟨env, h.2, fun t _ => rfl⟩
  | succ fuel ih =>
    intro L env hL hc h
    obtain ⟨i, hi, hif, hib⟩ := first_false (L := L) (by omega)
    have hipre : i < pre.size := by omega
    have hir : i ∈ Region.ready .any pre L := mem_ready.2 ⟨hif, pre[i], Array.getElem?_eq_getElem hipre, fun e he hb => hib _ (hback i pre[i] (Array.getElem?_eq_getElem hipre) e he hb)⟩
    have h1 := h.2 i hir
    have hc' : (L.setIfInBounds i true).toList.count false = fuel := by
      have hjl2 : i < L.toList.length := by simpa using hi
      have e1 : (L.setIfInBounds i true).toList = L.toList.set i true := by simp
      rw [e1, List.count_set hjl2]
      have : L.toList[i] = false := by simpa [Array.getD_eq_getD_getElem?, Array.getElem?_eq_getElem hi] using hif
      rw [this]
      simp only [beq_self_eq_true, if_true]
      have : (true == false) = false := rfl
      rw [this]
      simp only [Bool.false_eq_true, if_false]
      omega
    unfold qA at h1
    simp only [Array.getElem?_eq_getElem hipre] at h1
    have fin : ∀ od, anyA K.P .any pre Hs K.n Qp fuel (L.setIfInBounds i true) (env.putO pre[i].dst od) → ∃ envF, Qp envF ∧ ∀ t, (∀ i o, pre[i]? = some o → L.getD i true = false → o.dst ≠ some t) → envF t = env t := fun od hk => by
      obtain ⟨envF, hq, hf⟩ := ih _ _ (by simpa using hL) hc' hk
      refine ⟨envF, hq, fun t ht' => ?_⟩
      rw [hf t fun i' o' ho' hl' => ht' i' o' ho' (by
        by_cases hii : i = i'
        · subst hii; exact hif
        · rwa [getD_set_ne true hii] at hl')]
      have := ht' i pre[i] (Array.getElem?_eq_getElem hipre) hif
      cases hd : pre[i].dst with
      | none => rfl
      | some d =>
        rw [hd] at this
        exact Env.put_other fun e => this (by rw [e])
    rcases h1.2 with ⟨hw, d, hp, hk⟩ | ⟨hw, hk⟩
    · exact fin _ hk
    · exact fin _ hk
theorem over_want {o : Oper} {b : Bool} {e : Env} : ∀ {ov : List (Nat × Option D)}, (∀ p ∈ ov, p.1 ∉ o.looksAt ops) → Want ops o e b → Want ops o (over ov e) b
  | [], _, h => h
  | p :: ov, hn, h => (Want.putO (dst := some p.1) fun t ht => by cases ht; exact hn p (by simp)).2 (over_want (fun q hq => hn q (List.mem_cons_of_mem _ hq)) h)
theorem over_pure {P : Program} {H : Hp} {o : Oper} {d : D} {e : Env} : ∀ {ov : List (Nat × Option D)}, (∀ p ∈ ov, p.1 ∉ o.looksAt ops) → Pure P H o e d → Pure P H o (over ov e) d
  | [], _, h => h
  | p :: ov, hn, h => (Pure.putO (ops := ops) (dst := some p.1) fun t ht => by cases ht; exact hn p (by simp)).2 (over_pure (fun q hq => hn q (List.mem_cons_of_mem _ hq)) h)
theorem wpAny_sp {m : Nat} {pre : Array Oper} {sp : List Nat} (ht : TailP .any ops m) (hsp : SpP ops m sp) (hpz : pre.size = m) (hpre : ∀ i, i < m → pre[i]? = (ops[i]?).map fun o => if sp.any (Nat.beq i) then mute o else o)
    (hback : ∀ (j : Nat) (o : Oper), pre[j]? = some o → ∀ e ∈ o.after, Region.binds .any e = true → e.on < j)
    (f : Nat) (hf : f = ops.size - m) (htl : ∀ i, tl[i]? = ops[m + i]?) :
    ∀ (fuel : Nat) (L : Array Bool) (k : Nat) (rest : List Nat) (ov : List (Nat × Option D)) (H : Hp) (e : Env) (a : Act) (w : World), L.size = m → Down .any ops L → L.toList.count false = fuel →
      rest.length = k → rest.Nodup → (∀ i ∈ rest, i ∈ sp ∧ L.getD i true = false) → (∀ i ∈ sp, L.getD i true = false → i ∈ rest) → (∀ p ∈ ov, ∃ s ∈ sp, ∃ o, ops[s]? = some o ∧ o.dst = some p.1) →
      Sat K (over ov e) H a w → SpOK K ops Hs Qp Qf tl k rest ov H → anyA K.P .any pre Hs K.n Qp fuel L e →
      wpAnyIn (fen K.r) 0 K.P .any ops (liftQ K Qf) (fuel + f) (lst L (ops.size - m)) a w := by
  intro fuel
  induction fuel with
  | zero =>
    intro L k rest ov H e a w hL hd hc hk hnd hr1 hr2 hov hsat hok h
    have hall := all_true hc
    have hz : rest = [] := by
      cases rest with
      | nil => rfl
      | cons i rest =>
        have h1 := (hr1 i (by simp)).2
        have h2 := hsp.lt i (hr1 i (by simp)).1
        rw [hall] at h1
        simp [Array.getD_eq_getD_getElem?, hL, h2] at h1
    subst hz
    obtain rfl : k = 0 := by simpa using hk.symm
    rw [Nat.zero_add, hall, hL, ← hf]
    exact wpAny_tail ht f m tl a w (Nat.le_refl _) (by have := ht.lt; omega) htl (hok.2 e h.2 a w hsat)
  | succ fuel ih =>
    intro L k rest ov H e a w hL hd hc hk hnd hr1 hr2 hov hsat hok h
    obtain ⟨i, hi, hif, hib⟩ := first_false (L := L) (by omega)
    have hif' : L.getD i false = false := by
      simp only [Array.getD_eq_getD_getElem?, Array.getElem?_eq_getElem hi, Option.getD_some] at hif ⊢
      exact hif
    have hiops : i < ops.size := by have := ht.lt; omega
    have hir : i ∈ Region.ready .any ops (lst L (ops.size - m)) := mem_ready.2 ⟨by rw [lst_get true hi]; exact hif, ops[i], Array.getElem?_eq_getElem hiops, fun e he hb => by
      have hlt := ht.back i _ (Array.getElem?_eq_getElem hiops) e he hb
      rw [lst_get false (by omega)]
      exact hib _ hlt⟩
    rw [show fuel + 1 + f = (fuel + f) + 1 by omega]
    refine ⟨fun h0 => (by rw [h0] at hir; cases hir), fun j hj => ?_⟩
    have hjm : j < m := ready_pre ht hL hd hj (hL ▸ hi) hif'
    obtain ⟨hjl, o, ho, hall⟩ := mem_ready.1 hj
    have hjL : j < L.size := by omega
    rw [lst_get true hjL] at hjl
    have hdown : Down .any ops (L.setIfInBounds j true) := fun j' o' ho' hl' e he hb => by
      by_cases hjj : j = j'
      · subst hjj
        rw [ho] at ho'; cases ho'
        have hlt := ht.back j o ho e he hb
        have := hall e he hb
        rw [lst_get false (by omega)] at this
        exact getD_set_true this
      · rw [getD_set_ne false hjj] at hl'
        exact getD_set_true (hd j' o' ho' hl' e he hb)
    have hcnt : (L.setIfInBounds j true).toList.count false = fuel := by
      have hjl2 : j < L.toList.length := by simpa using hjL
      have e1 : (L.setIfInBounds j true).toList = L.toList.set j true := by simp
      rw [e1, List.count_set hjl2]
      have : L.toList[j] = false := by
        have : L[j] = false := by simpa [Array.getD_eq_getD_getElem?, Array.getElem?_eq_getElem hjL] using hjl
        simpa using this
      rw [this]
      simp only [beq_self_eq_true, if_true]
      have : (true == false) = false := rfl
      rw [this]
      simp only [Bool.false_eq_true, if_false]
      omega
    have hset : ∀ i, (L.setIfInBounds j true).getD i true = false → i ≠ j ∧ L.getD i true = false := fun i h => by
      by_cases hij : j = i
      · subst hij
        simp [Array.getD_eq_getD_getElem?, hjL] at h
      · rw [getD_set_ne true hij] at h; exact ⟨fun e => hij e.symm, h⟩
    have hprej : pre[j]? = some (if sp.any (Nat.beq j) then mute o else o) := by rw [hpre j hjm, ho]; rfl
    have hjr : j ∈ Region.ready .any pre L := mem_ready.2 ⟨hjl, _, hprej, fun e he hb => by
      have he' : e ∈ o.after := by
        by_cases hs : sp.any (Nat.beq j) = true
        · rw [if_pos hs] at he; exact he
        · rw [if_neg hs] at he; exact he
      have hlt := ht.back j o ho e he' hb
      have := hall e he' hb
      rwa [lst_get false (by omega)] at this⟩
    have h1 := h.2 j hjr
    unfold qA at h1
    simp only [hprej] at h1
    unfold wpOpIn
    simp only [ho]
    by_cases hjs : j ∈ sp
    · -- a special one
      rw [if_pos (any_beq.2 hjs)] at h1
      have hjrest : j ∈ rest := hr2 j hjs hjl
      obtain ⟨k', rfl⟩ : ∃ k', k = k' + 1 := ⟨k - 1, by have := List.length_pos_of_mem hjrest; omega⟩
      obtain ⟨envF, hqF, hF⟩ := anyA_last hback hpz (fuel + 1) L e hL hc h
      have hbnd : ∀ i, bindsOn .any ops j i = true → L.getD i true = false → False := fun i hb hl => by
        obtain ⟨o2, ho2, ed, he, hb, heq⟩ := bindsOn_spec hb
        rw [ho] at ho2; cases ho2
        have hlt := ht.back j o ho ed he hb
        have := hall ed he hb
        rw [heq, lst_get false (by omega)] at this
        rw [heq] at hlt
        have hiL : i < L.size := by omega
        simp only [Array.getD_eq_getD_getElem?, Array.getElem?_eq_getElem hiL, Option.getD_some] at this hl
        rw [this] at hl; cases hl
      obtain ⟨o', ho', hg, hst⟩ := hok.2 j hjrest fun i hi => by
        cases hb : bindsOn .any ops j i with
        | false => rfl
        | true => exact (hbnd i hb (hr1 i hi).2).elim
      rw [ho] at ho'; cases ho'
      have hopd : ∀ x ∈ o.op.operands, opD (over ov e) x = opD (over ov envF) x := fun x hx => by
        cases x with
        | tmp t =>
          by_cases hk2 : ∃ p ∈ ov, p.1 = t
          · exact over_same ov e envF t hk2
          · have hk3 : ∀ p ∈ ov, p.1 ≠ t := fun p hp he => hk2 ⟨p, hp, he⟩
            show over ov e t = over ov envF t
            rw [over_other ov e t hk3, over_other ov envF t hk3]
            refine (hF t fun i' o1 ho1 hl1 hd1 => ?_).symm
            have hi' : i' < m := by rw [← hpz]; exact (Array.getElem?_eq_some_iff.1 ho1).1
            rw [hpre i' hi'] at ho1
            obtain ⟨o2, ho2, he2⟩ := Option.map_eq_some_iff.1 ho1
            by_cases hs2 : sp.any (Nat.beq i') = true
            · rw [if_pos hs2] at he2; subst he2; simp [mute] at hd1
            · rw [if_neg hs2] at he2; subst he2
              exact hbnd i' (hsp.feeds j hjs o ho t hx i' hi' (fun h => hs2 (any_beq.2 h)) o2 ho2 hd1) hl1
        | _ => rfl
      have h2 := hst (over ov e) envF hqF hopd a w hsat
      have hwt : Region.wanted o (yielded ops a.tmps) = true := by unfold Region.wanted; rw [hg]
      unfold wpListIn at h2
      rw [if_pos hwt] at h2 ⊢
      refine Oper.wpIn_both (fun a' w' hx => ?_) (fun e a w hn hx => ?_) h2
      · obtain ⟨env', H', hs', _, od, rfl, hok'⟩ := hx
        rw [over_put] at hs'
        have h3 : anyA K.P .any pre Hs K.n Qp fuel (L.setIfInBounds j true) e := by
          rcases h1.2 with ⟨_, d, _, hk3⟩ | ⟨_, hk3⟩ <;> exact hk3
        rw [lst_set hjL]
        refine ih _ k' (rest.erase j) _ H' e a' w' (by simpa using hL) hdown hcnt (by rw [List.length_erase_of_mem hjrest, hk]; rfl) (hnd.erase j) (fun i hi => ?_) (fun i hi hl => ?_) (fun p hp => ?_) hs' hok' h3
        · have hne : i ≠ j := fun he => by rw [he] at hi; exact absurd hi (hnd.not_mem_erase)
          have := hr1 i (List.mem_of_mem_erase hi)
          exact ⟨this.1, by rw [getD_set_ne true (Ne.symm hne)]; exact this.2⟩
        · obtain ⟨h4, h5⟩ := hset i hl
          exact (List.mem_erase_of_ne h4).2 (hr2 i hi h5)
        · cases hd2 : o.dst with
          | none => rw [hd2] at hp; exact hov p hp
          | some t =>
            rw [hd2] at hp
            rcases List.mem_cons.1 hp with rfl | hp
            · exact ⟨j, hjs, o, ho, hd2⟩
            · exact hov p hp
      · obtain ⟨_, _, _, he, _⟩ := hx; exact absurd he hn
    · -- one that only reads
      rw [if_neg (fun h => hjs (any_beq.1 h))] at h1
      obtain ⟨Hx, hHx⟩ := hok.split
      obtain ⟨hdn, h1⟩ := h1
      have hno : ∀ p ∈ ov, p.1 ∉ o.looksAt ops ∧ o.dst ≠ some p.1 := fun p hp => by
        obtain ⟨s, hs, os, hos, hd2⟩ := hov p hp
        exact hsp.apart j hjm hjs o ho s hs os hos p.1 hd2
      have hwant : ∀ b, Want pre o e b → Want ops o (over ov e) b := fun b hw => over_want (fun p hp => (hno p hp).1) (by
        unfold Want at *
        cases hg : o.guard with
        | none => simpa only [hg] using hw
        | some q =>
          obtain ⟨g, want⟩ := q
          simp only [hg] at hw ⊢
          obtain ⟨t, c, ht2, hc2, hb⟩ := hw
          refine ⟨t, c, ?_, hc2, hb⟩
          obtain ⟨og, hog, hd2⟩ := Option.bind_eq_some_iff.1 ht2
          have hgm : g < m := by rw [← hpz]; exact (Array.getElem?_eq_some_iff.1 hog).1
          rw [hpre g hgm] at hog
          obtain ⟨o2, ho2, he2⟩ := Option.map_eq_some_iff.1 hog
          by_cases hs2 : sp.any (Nat.beq g) = true
          · rw [if_pos hs2] at he2; subst he2; simp [mute] at hd2
          · rw [if_neg hs2] at he2; subst he2; rw [ho2]; exact hd2)
      have hnext : ∀ (od : Option D) (a' : Act) (w' : World), Sat K ((over ov e).putO o.dst od) H a' w' → anyA K.P .any pre Hs K.n Qp fuel (L.setIfInBounds j true) (e.putO o.dst od) → wpAnyIn (fen K.r) 0 K.P .any ops (liftQ K Qf) (fuel + f) ((lst L (ops.size - m)).setIfInBounds j true) a' w' := fun od a' w' hs' h' => by
        rw [lst_set hjL]
        rw [over_comm ov e o.dst od fun t ht2 p hp he => (hno p hp).2 (by rw [ht2, he])] at hs'
        refine ih _ k rest ov H _ a' w' (by simpa using hL) hdown hcnt hk hnd (fun i hi => ?_) (fun i hi hl => hr2 i hi (hset i hl).2) hov hs' hok h'
        have := hr1 i hi
        have hne : j ≠ i := fun he => hjs (he ▸ this.1)
        exact ⟨this.1, by rw [getD_set_ne true hne]; exact this.2⟩
      rcases h1 with ⟨hw, d, hp, hk3⟩ | ⟨hw, hk3⟩
      · rw [if_pos ((hwant _ hw).wanted hsat)]
        exact ((over_pure (ops := ops) (fun p hp => (hno p hp).1) hp).frame hHx).wp hsat hdn fun a' w' hs' => hnext _ _ _ hs' hk3
      · rw [if_neg (by rw [(hwant _ hw).wanted hsat]; simp)]
        exact ⟨fun _ _ => trivial, hnext _ _ _ (hsat.put (Kept.refl _ _) hdn (fun d hd => by cases hd; exact .v _)) hk3⟩
end
section
variable {K : Ctx} {Q : Exit → Env → Hp → Prop} {env : Env} {H Hs : Hp}
theorem lexA_ex {P : Program} {ops : Array Oper} {H : Hp} {n : Nat} {Q : Env → Prop} : ∀ (l : List Oper) (env : Env), lexA P ops H n Q l env → ∃ e0, Q e0 ∧ lexA P ops H n (fun e => e = e0) l env
  | [], env, h => ⟨env, h, rfl⟩
  | o :: l, env, h => by
    obtain ⟨hd, h⟩ := h
    rcases h with ⟨hw, d, hp, hk⟩ | ⟨hw, hk⟩
    · obtain ⟨e0, h1, h2⟩ := lexA_ex l _ hk
      exact ⟨e0, h1, hd, .inl ⟨hw, d, hp, h2⟩⟩
    · obtain ⟨e0, h1, h2⟩ := lexA_ex l _ hk
      exact ⟨e0, h1, hd, .inr ⟨hw, h2⟩⟩
/-- **A region that draws its order**: its first m operations only read, but for those numbered in sp; those do what SpOK says, in whatever order they come; the last ones are forced behind. -/
theorem TC.drawSp {id : Nat} {l : List Oper} (m : Nat) (sp : List Nat) (Hs : Hp) (hm : K.P.follows .mixedOrders = true) (hnd : sp.Nodup) (hB : Region.lexFrom .any (muted sp 0 (l.take m)).toArray (l.take m).length 0 (Array.replicate (l.take m).length false) = true)
    (ht : tailB .any l.toArray m = true) (hs : spB l.toArray m sp = true) (h : TD K (muted sp 0 (l.take m)).toArray (muted sp 0 (l.take m)) (fun _ e0 _ => SpOK K l.toArray Hs (fun e => e = e0) Q (l.drop m) sp.length sp [] H) env Hs) : TC K (.region id l.toArray true) Q env H := fun a w hsat => by
  obtain ⟨e0, hok, h⟩ := lexA_ex _ _ h
  refine wpIn_region_any hm ?_
  have hT := tailP ht
  have hS := spP hs
  have hml : m < l.length := by have := hT.lt; simpa using this
  have htk : (l.take m).length = m := by rw [List.length_take]; omega
  have hmz : (muted sp 0 (l.take m)).length = m := by rw [muted_len, htk]
  rw [htk] at hB
  have hpre : ∀ i, i < m → (muted sp 0 (l.take m)).toArray[i]? = (l.toArray[i]?).map fun o => if sp.any (Nat.beq i) then mute o else o := fun i hi => by
    simp [muted_get, List.getElem?_take, hi]
  have hback : ∀ (j : Nat) (o : Oper), (muted sp 0 (l.take m)).toArray[j]? = some o → ∀ e ∈ o.after, Region.binds .any e = true → e.on < j := fun j o ho e he hb => by
    have hj : j < m := by have := (Array.getElem?_eq_some_iff.1 ho).1; simpa [hmz] using this
    rw [hpre j hj] at ho
    obtain ⟨o2, ho2, he2⟩ := Option.map_eq_some_iff.1 ho
    refine hT.back j o2 ho2 e ?_ hb
    by_cases hs2 : sp.any (Nat.beq j) = true
    · rw [if_pos hs2] at he2; subst he2; exact he
    · rw [if_neg hs2] at he2; subst he2; exact he
  have hlex := anyA_lex (P := K.P) (H := Hs) (n := K.n) (md := .any) (ops := (muted sp 0 (l.take m)).toArray) (Q := fun e => e = e0) (muted sp 0 (l.take m)) 0 (Array.replicate m false) env (by simp) (by rw [hmz]; exact hB) h
  rw [hmz] at hlex
  have := wpAny_sp (K := K) (Qf := Q) (tl := l.drop m) (pre := (muted sp 0 (l.take m)).toArray) hT hS (by simpa using hmz) hpre hback (l.length - m) (by simp) (fun i => by simp [List.getElem?_drop])
    m (Array.replicate m false) sp.length sp [] H env a _ (by simp) (fun j o ho hl => by
        simp only [Array.getD_eq_getD_getElem?, Array.getElem?_replicate] at hl
        split at hl <;> cases hl) (by simp) rfl hnd (fun i hi => ⟨hi, by simp [Array.getD_eq_getD_getElem?, Array.getElem?_replicate, hS.lt i hi]⟩) (fun i hi _ => hi) (fun p hp => by cases hp) hsat.drew hok hlex
  have e1 : l.toArray.size = m + (l.length - m) := by simp; omega
  rw [e1]
  simpa [lst, Array.replicate_append_replicate] using this
theorem TD.mute {ops : Array Oper} {o : Oper} {rest : List Oper} {Q : Exit → Env → Hp → Prop} (h : TD K ops rest Q env Hs) : TD K ops (mute o :: rest) Q env Hs := by
  refine TD.run (d := .v undef) rfl (pure_move rfl) (fun t h => by cases h) h
theorem TC.thenCut {c d : Code} (Post : Env → Hp → Prop) (h : TC K c (fun e env H => e = .normal ∧ Post env H) env H) (h' : ∀ env' H', Post env' H' → TC K d Q env' H') : TC K c (thenA K d Q) env H :=
  h.mono fun e env H ⟨he, hp⟩ => by subst he; exact h' env H hp
end
end Go.Ob
