import Derived.Test.YtlhjcleejolbiaaZh
set_option linter.unusedVariables false
set_option linter.unusedSimpArgs false
set_option linter.unnecessarySimpa false
set_option linter.unusedVariables false
set_option linter.unusedSimpArgs false
namespace Go.Ob
open Go.Proofs
theorem Oper.wpIn_both {F : Fence} {n : Nat} {P : Program} {o : Oper} {a : Act} {w : World} {K K' : Act → World → Prop} {Q Q' : Exit → Act → World → Prop} (h : ∀ a w, K a w → K' a w) (hq : ∀ e a w, e ≠ .normal → Q e a w → Q' e a w)
    (hh : o.wpIn F n P a w K Q) : o.wpIn F n P a w K' Q' := by
  unfold Oper.wpIn at *
  refine ⟨hh.1, ?_⟩
  have hh := hh.2
  generalize (o.semAt F.round a.eval).run P w = r at *
  cases r with
  | ok x w' =>
    cases x <;> simp only [Oper.uponIn] at hh ⊢ <;>
      first
        | exact h _ _ hh
        | exact ⟨hh.1, CallsIn.mono hh.2 (fun e w'' he => by cases e <;> first | exact h _ _ he | exact hq _ _ _ (fun h => by cases h) he | (obtain ⟨a, w, hx⟩ := he; exact ⟨a, w, hq _ _ _ (fun h => by cases h) hx⟩))⟩
        | exact ⟨hh.1, RowsIn.mono hh.2 (fun _ _ he => h _ _ he)⟩
        | exact ⟨hh.1, RoundIn.mono hh.2 (fun e w'' he => by cases e <;> first | exact h _ _ he | exact hq _ _ _ (fun h => by cases h) he | (obtain ⟨a, w, hx⟩ := he; exact ⟨a, w, hq _ _ _ (fun h => by cases h) hx⟩))⟩
  | halt x w' => cases x <;> simp only [Oper.uponIn] at hh ⊢ <;> first | exact hh | exact hq _ _ _ (fun h => by cases h) hh
def over : List (Nat × Option D) → Env → Env
  | [], e => e
  | p :: ov, e => (over ov e).put p.1 p.2
def ovp (ov : List (Nat × Option D)) : Option Nat → Option D → List (Nat × Option D)
  | some t, od => (t, od) :: ov
  | none, _ => ov
theorem over_put (ov : List (Nat × Option D)) (e : Env) (dst : Option Nat) (od : Option D) : (over ov e).putO dst od = over (ovp ov dst od) e := by cases dst <;> rfl
theorem over_comm : ∀ (ov : List (Nat × Option D)) (e : Env) (dst : Option Nat) (od : Option D), (∀ t, dst = some t → ∀ p ∈ ov, p.1 ≠ t) → (over ov e).putO dst od = over ov (e.putO dst od)
  | [], _, _, _, _ => rfl
  | p :: ov, e, dst, od, h => by
    rw [over, over, ← over_comm ov e dst od fun t ht q hq => h t ht q (List.mem_cons_of_mem _ hq)]
    exact Env.putO_comm _ (x := some p.1) (y := dst) p.2 od fun d hd hy => by cases hd; exact h _ hy p (by simp) rfl
theorem over_other : ∀ (ov : List (Nat × Option D)) (e : Env) (t : Nat), (∀ p ∈ ov, p.1 ≠ t) → over ov e t = e t
  | [], _, _, _ => rfl
  | p :: ov, e, t, h => by
    rw [over, Env.put_other fun he => h p (by simp) he.symm]
    exact over_other ov e t fun q hq => h q (List.mem_cons_of_mem _ hq)
theorem over_same : ∀ (ov : List (Nat × Option D)) (e e' : Env) (t : Nat), (∃ p ∈ ov, p.1 = t) → over ov e t = over ov e' t
  | [], _, _, _, h => by obtain ⟨p, hp, _⟩ := h; cases hp
  | p :: ov, e, e', t, h => by
    by_cases hp : t = p.1
    · subst hp; rw [over, over, Env.put_same, Env.put_same]
    · rw [over, over, Env.put_other hp, Env.put_other hp]
      refine over_same ov e e' t ?_
      obtain ⟨q, hq, he⟩ := h
      rcases List.mem_cons.1 hq with rfl | hq
      · exact absurd he.symm hp
      · exact ⟨q, hq, he⟩
def mute (o : Oper) : Oper := ⟨none, .move (.const undef), o.type, o.pos, o.after, none⟩
def muted (sp : List Nat) : Nat → List Oper → List Oper
  | _, [] => []
  | k, o :: l => (if sp.any (Nat.beq k) then mute o else o) :: muted sp (k + 1) l
theorem muted_len (sp : List Nat) : ∀ (l : List Oper) (k : Nat), (muted sp k l).length = l.length
  | [], _ => rfl
  | o :: l, k => by rw [muted, List.length_cons, List.length_cons, muted_len sp l (k + 1)]
theorem muted_get (sp : List Nat) : ∀ (l : List Oper) (k i : Nat), (muted sp k l)[i]? = (l[i]?).map fun o => if sp.any (Nat.beq (k + i)) then mute o else o
  | [], _, _ => by simp [muted]
  | o :: l, k, i => by
    cases i with
    | zero => simp [muted]
    | succ i => rw [muted, List.getElem?_cons_succ, List.getElem?_cons_succ, muted_get sp l (k + 1) i, show k + 1 + i = k + (i + 1) by omega]
section
variable {K : Ctx} {ops : Array Oper} {Hs : Hp} {Qp : Env → Prop} {Qf : Exit → Env → Hp → Prop} {tl : List Oper}
def SpOK (K : Ctx) (ops : Array Oper) (Hs : Hp) (Qp : Env → Prop) (Qf : Exit → Env → Hp → Prop) (tl : List Oper) : Nat → List Nat → List (Nat × Option D) → Hp → Prop
  | 0, _, ov, H => (∃ Hx, SplitR H Hs Hx) ∧ ∀ e, Qp e → TL K ops tl Qf (over ov e) H
  | k + 1, rest, ov, H => (∃ Hx, SplitR H Hs Hx) ∧ ∀ s ∈ rest, (∀ i ∈ rest, bindsOn .any ops s i = false) → ∃ o, ops[s]? = some o ∧ o.guard = none ∧
      ∀ E eF, Qp eF → (∀ x ∈ o.op.operands, opD E x = opD (over ov eF) x) → TL K ops [o] (fun e E' H' => e = .normal ∧ ∃ od, E' = E.putO o.dst od ∧ SpOK K ops Hs Qp Qf tl k (rest.erase s) (ovp ov o.dst od) H') E H
theorem SpOK.split {k : Nat} {rest : List Nat} {ov : List (Nat × Option D)} {H : Hp} (h : SpOK K ops Hs Qp Qf tl k rest ov H) : ∃ Hx, SplitR H Hs Hx := by
  cases k <;> exact h.1
def spB (ops : Array Oper) (m : Nat) (sp : List Nat) : Bool :=
  (List.range m).all (fun i => sp.any (Nat.beq i) || match ops[i]? with
    | none => true
    | some o => sp.all fun s => match ops[s]? with
      | none => true
      | some os => match os.dst with
        | none => true
        | some t => (!((o.looksAt ops).any (Nat.beq t))) && match o.dst with
          | none => true
          | some d => !Nat.beq d t) &&
  sp.all (fun s => Nat.blt s m && match ops[s]? with
    | none => false
    | some os => os.op.operands.all fun x => match x with
      | .tmp t => (List.range m).all fun i => sp.any (Nat.beq i) || match ops[i]? with
        | none => true
        | some o => match o.dst with
          | none => true
          | some d => !Nat.beq d t || bindsOn .any ops s i
      | _ => true)
theorem any_beq {sp : List Nat} {i : Nat} : sp.any (Nat.beq i) = true ↔ i ∈ sp := by
  rw [List.any_eq_true]
  constructor
  · rintro ⟨x, hx, h⟩; rw [Nat.eq_of_beq_eq_true h]; exact hx
  · intro h; exact ⟨i, h, Nat.beq_refl i⟩
structure SpP (ops : Array Oper) (m : Nat) (sp : List Nat) : Prop where
  apart : ∀ i, i < m → i ∉ sp → ∀ o, ops[i]? = some o → ∀ s ∈ sp, ∀ os, ops[s]? = some os → ∀ t, os.dst = some t → t ∉ o.looksAt ops ∧ o.dst ≠ some t
  lt : ∀ s ∈ sp, s < m
  feeds : ∀ s ∈ sp, ∀ os, ops[s]? = some os → ∀ t, .tmp t ∈ os.op.operands → ∀ i, i < m → i ∉ sp → ∀ o, ops[i]? = some o → o.dst = some t → bindsOn .any ops s i = true
theorem spP {m : Nat} {sp : List Nat} (h : spB ops m sp = true) : SpP ops m sp := by
  unfold spB at h
  rw [Bool.and_eq_true] at h
  obtain ⟨h1, h2⟩ := h
  refine ⟨fun i hi hn o ho s hs os hos t ht => ?_, fun s hs => ?_, fun s hs os hos t ht i hi hn o ho hd => ?_⟩
  · have h3 := List.all_eq_true.1 h1 i (List.mem_range.2 hi)
    rw [Bool.or_eq_true] at h3
    rcases h3 with h3 | h3
    · exact absurd (any_beq.1 h3) hn
    simp only [ho] at h3
    have h4 := List.all_eq_true.1 h3 s hs
    simp only [hos, ht, Bool.and_eq_true, Bool.not_eq_true'] at h4
    refine ⟨fun hm => ?_, fun hd => ?_⟩
    · rw [any_beq.2 hm] at h4; exact absurd h4.1 (by simp)
    · rw [hd] at h4; simp at h4
  · have h3 := List.all_eq_true.1 h2 s hs
    rw [Bool.and_eq_true] at h3
    simpa [Nat.blt_eq] using h3.1
  · have h3 := List.all_eq_true.1 h2 s hs
    rw [Bool.and_eq_true] at h3
    have h4 := h3.2
    simp only [hos] at h4
    have h5 := (Array.all_eq_true_iff_forall_mem.1 h4) _ ht
    have h6 := List.all_eq_true.1 h5 i (List.mem_range.2 hi)
    rw [Bool.or_eq_true] at h6
    rcases h6 with h6 | h6
    · exact absurd (any_beq.1 h6) hn
    simpa [ho, hd] using h6
theorem anyA_last {m : Nat} {pre : Array Oper} (hback : ∀ (j : Nat) (o : Oper), pre[j]? = some o → ∀ e ∈ o.after, Region.binds .any e = true → e.on < j) (hpz : pre.size = m) :
    ∀ (fuel : Nat) (L : Array Bool) (env : Env), L.size = m → L.toList.count false = fuel → anyA K.P .any pre Hs K.n Qp fuel L env →
      ∃ envF, Qp envF ∧ ∀ t, (∀ i o, pre[i]? = some o → L.getD i true = false → o.dst ≠ some t) → envF t = env t := by
  intro fuel
  induction fuel with
  | zero => intro L env hL hc h; exact ⟨env, h.2, fun t _ => rfl⟩
  | succ fuel ih =>
    intro L env hL hc h
    obtain ⟨i, hi, hif, hib⟩ := first_false (L := L) (by omega)
    have hipre : i < pre.size := by omega
    have hir : i ∈ Region.ready .any pre L := mem_ready.2 ⟨hif, pre[i], Array.getElem?_eq_getElem hipre, fun e he hb => hib _ (hback i pre[i] (Array.getElem?_eq_getElem hipre) e he hb)⟩
    have h1 := h.2 i hir
    have hc' : (L.setIfInBounds i true).toList.count false = fuel := by
      have hjl2 : i < L.toList.length := by simpa using hi
      have e1 : (L.setIfInBounds i true).toList = L.toList.set i true := by simp
      rw [e1, List.count_set hjl2]
      have : L.toList[i] = false := by simpa [Array.getD_eq_getD_getElem?, Array.getElem?_eq_getElem hi] using hif
      rw [this]
      simp only [beq_self_eq_true, if_true]
      have : (true == false) = false := rfl
      rw [this]
      simp only [Bool.false_eq_true, if_false]
      omega
    unfold qA at h1
    simp only [Array.getElem?_eq_getElem hipre] at h1
    have fin : ∀ od, anyA K.P .any pre Hs K.n Qp fuel (L.setIfInBounds i true) (env.putO pre[i].dst od) → ∃ envF, Qp envF ∧ ∀ t, (∀ i o, pre[i]? = some o → L.getD i true = false → o.dst ≠ some t) → envF t = env t := fun od hk => by
      obtain ⟨envF, hq, hf⟩ := ih _ _ (by simpa using hL) hc' hk
      refine ⟨envF, hq, fun t ht' => ?_⟩
      rw [hf t fun i' o' ho' hl' => ht' i' o' ho' (by
        by_cases hii : i = i'
        · subst hii; exact hif
        · rwa [getD_set_ne true hii] at hl')]
      have := ht' i pre[i] (Array.getElem?_eq_getElem hipre) hif
      cases hd : pre[i].dst with
      | none => rfl
      | some d =>
        rw [hd] at this
        exact Env.put_other fun e => this (by rw [e])
    rcases h1.2 with ⟨hw, d, hp, hk⟩ | ⟨hw, hk⟩
    · exact fin _ hk
    · exact fin _ hk
theorem over_want {o : Oper} {b : Bool} {e : Env} : ∀ {ov : List (Nat × Option D)}, (∀ p ∈ ov, p.1 ∉ o.looksAt ops) → Want ops o e b → Want ops o (over ov e) b
  | [], _, h => h
  | p :: ov, hn, h => (Want.putO (dst := some p.1) fun t ht => by cases ht; exact hn p (by simp)).2 (over_want (fun q hq => hn q (List.mem_cons_of_mem _ hq)) h)
theorem over_pure {P : Program} {H : Hp} {o : Oper} {d : D} {e : Env} : ∀ {ov : List (Nat × Option D)}, (∀ p ∈ ov, p.1 ∉ o.looksAt ops) → Pure P H o e d → Pure P H o (over ov e) d
  | [], _, h => h
  | p :: ov, hn, h => (Pure.putO (ops := ops) (dst := some p.1) fun t ht => by cases ht; exact hn p (by simp)).2 (over_pure (fun q hq => hn q (List.mem_cons_of_mem _ hq)) h)
theorem wpAny_sp {m : Nat} {pre : Array Oper} {sp : List Nat} (ht : TailP .any ops m) (hsp : SpP ops m sp) (hpz : pre.size = m) (hpre : ∀ i, i < m → pre[i]? = (ops[i]?).map fun o => if sp.any (Nat.beq i) then mute o else o)
    (hback : ∀ (j : Nat) (o : Oper), pre[j]? = some o → ∀ e ∈ o.after, Region.binds .any e = true → e.on < j)
    (f : Nat) (hf : f = ops.size - m) (htl : ∀ i, tl[i]? = ops[m + i]?) :
    ∀ (fuel : Nat) (L : Array Bool) (k : Nat) (rest : List Nat) (ov : List (Nat × Option D)) (H : Hp) (e : Env) (a : Act) (w : World), L.size = m → Down .any ops L → L.toList.count false = fuel →
      rest.length = k → rest.Nodup → (∀ i ∈ rest, i ∈ sp ∧ L.getD i true = false) → (∀ i ∈ sp, L.getD i true = false → i ∈ rest) → (∀ p ∈ ov, ∃ s ∈ sp, ∃ o, ops[s]? = some o ∧ o.dst = some p.1) →
      Sat K (over ov e) H a w → SpOK K ops Hs Qp Qf tl k rest ov H → anyA K.P .any pre Hs K.n Qp fuel L e →
      wpAnyIn (fen K.r) 0 K.P .any ops (liftQ K Qf) (fuel + f) (lst L (ops.size - m)) a w := by
  intro fuel
  induction fuel with
  | zero =>
    intro L k rest ov H e a w hL hd hc hk hnd hr1 hr2 hov hsat hok h
    have hall := all_true hc
    have hz : rest = [] := by
      cases rest with
      | nil => rfl
      | cons i rest =>
        have h1 := (hr1 i (by simp)).2
        have h2 := hsp.lt i (hr1 i (by simp)).1
        rw [hall] at h1
        simp [Array.getD_eq_getD_getElem?, hL, h2] at h1
    subst hz
    obtain rfl : k = 0 := by simpa using hk.symm
    rw [Nat.zero_add, hall, hL, ← hf]
    exact wpAny_tail ht f m tl a w (Nat.le_refl _) (by have := ht.lt; omega) htl (hok.2 e h.2 a w hsat)
  | succ fuel ih =>
    intro L k rest ov H e a w hL hd hc hk hnd hr1 hr2 hov hsat hok h
    obtain ⟨i, hi, hif, hib⟩ := first_false (L := L) (by omega)
    have hif' : L.getD i false = false := by
      simp only [Array.getD_eq_getD_getElem?, Array.getElem?_eq_getElem hi, Option.getD_some] at hif ⊢
      exact hif
    have hiops : i < ops.size := by have := ht.lt; omega
    have hir : i ∈ Region.ready .any ops (lst L (ops.size - m)) := mem_ready.2 ⟨by rw [lst_get true hi]; exact hif, ops[i], Array.getElem?_eq_getElem hiops, fun e he hb => by
      have hlt := ht.back i _ (Array.getElem?_eq_getElem hiops) e he hb
      rw [lst_get false (by omega)]
      exact hib _ hlt⟩
    rw [show fuel + 1 + f = (fuel + f) + 1 by omega]
    refine ⟨fun h0 => (by rw [h0] at hir; cases hir), fun j hj => ?_⟩
    have hjm : j < m := ready_pre ht hL hd hj (hL ▸ hi) hif'
    obtain ⟨hjl, o, ho, hall⟩ := mem_ready.1 hj
    have hjL : j < L.size := by omega
    rw [lst_get true hjL] at hjl
    have hdown : Down .any ops (L.setIfInBounds j true) := fun j' o' ho' hl' e he hb => by
      by_cases hjj : j = j'
      · subst hjj
        rw [ho] at ho'; cases ho'
        have hlt := ht.back j o ho e he hb
        have := hall e he hb
        rw [lst_get false (by omega)] at this
        exact getD_set_true this
      · rw [getD_set_ne false hjj] at hl'
        exact getD_set_true (hd j' o' ho' hl' e he hb)
    have hcnt : (L.setIfInBounds j true).toList.count false = fuel := by
      have hjl2 : j < L.toList.length := by simpa using hjL
      have e1 : (L.setIfInBounds j true).toList = L.toList.set j true := by simp
      rw [e1, List.count_set hjl2]
      have : L.toList[j] = false := by
        have : L[j] = false := by simpa [Array.getD_eq_getD_getElem?, Array.getElem?_eq_getElem hjL] using hjl
        simpa using this
      rw [this]
      simp only [beq_self_eq_true, if_true]
      have : (true == false) = false := rfl
      rw [this]
      simp only [Bool.false_eq_true, if_false]
      omega
    have hset : ∀ i, (L.setIfInBounds j true).getD i true = false → i ≠ j ∧ L.getD i true = false := fun i h => by
      by_cases hij : j = i
      · subst hij
        simp [Array.getD_eq_getD_getElem?, hjL] at h
      · rw [getD_set_ne true hij] at h; exact ⟨fun e => hij e.symm, h⟩
    have hprej : pre[j]? = some (if sp.any (Nat.beq j) then mute o else o) := by rw [hpre j hjm, ho]; rfl
    have hjr : j ∈ Region.ready .any pre L := mem_ready.2 ⟨hjl, _, hprej, fun e he hb => by
      have he' : e ∈ o.after := by
        by_cases hs : sp.any (Nat.beq j) = true
        · rw [if_pos hs] at he; exact he
        · rw [if_neg hs] at he; exact he
      have hlt := ht.back j o ho e he' hb
      have := hall e he' hb
      rwa [lst_get false (by omega)] at this⟩
    have h1 := h.2 j hjr
    unfold qA at h1
    simp only [hprej] at h1
    unfold wpOpIn
    simp only [ho]
    by_cases hjs : j ∈ sp
    · -- a special one
      rw [if_pos (any_beq.2 hjs)] at h1
      have hjrest : j ∈ rest := hr2 j hjs hjl
      obtain ⟨k', rfl⟩ : ∃ k', k = k' + 1 := ⟨k - 1, by have := List.length_pos_of_mem hjrest; omega⟩
      obtain ⟨envF, hqF, hF⟩ := anyA_last hback hpz (fuel + 1) L e hL hc h
      have hbnd : ∀ i, bindsOn .any ops j i = true → L.getD i true = false → False := fun i hb hl => by
        obtain ⟨o2, ho2, ed, he, hb, heq⟩ := bindsOn_spec hb
        rw [ho] at ho2; cases ho2
        have hlt := ht.back j o ho ed he hb
        have := hall ed he hb
        rw [heq, lst_get false (by omega)] at this
        rw [heq] at hlt
        have hiL : i < L.size := by omega
        simp only [Array.getD_eq_getD_getElem?, Array.getElem?_eq_getElem hiL, Option.getD_some] at this hl
        rw [this] at hl; cases hl
      obtain ⟨o', ho', hg, hst⟩ := hok.2 j hjrest fun i hi => by
        cases hb : bindsOn .any ops j i with
        | false => rfl
        | true => exact (hbnd i hb (hr1 i hi).2).elim
      rw [ho] at ho'; cases ho'
      have hopd : ∀ x ∈ o.op.operands, opD (over ov e) x = opD (over ov envF) x := fun x hx => by
        cases x with
        | tmp t =>
          by_cases hk2 : ∃ p ∈ ov, p.1 = t
          · exact over_same ov e envF t hk2
          · have hk3 : ∀ p ∈ ov, p.1 ≠ t := fun p hp he => hk2 ⟨p, hp, he⟩
            show over ov e t = over ov envF t
            rw [over_other ov e t hk3, over_other ov envF t hk3]
            refine (hF t fun i' o1 ho1 hl1 hd1 => ?_).symm
            have hi' : i' < m := by rw [← hpz]; exact (Array.getElem?_eq_some_iff.1 ho1).1
            rw [hpre i' hi'] at ho1
            obtain ⟨o2, ho2, he2⟩ := Option.map_eq_some_iff.1 ho1
            by_cases hs2 : sp.any (Nat.beq i') = true
            · rw [if_pos hs2] at he2; subst he2; simp [mute] at hd1
            · rw [if_neg hs2] at he2; subst he2
              exact hbnd i' (hsp.feeds j hjs o ho t hx i' hi' (fun h => hs2 (any_beq.2 h)) o2 ho2 hd1) hl1
        | _ => rfl
      have h2 := hst (over ov e) envF hqF hopd a w hsat
      have hwt : Region.wanted o (yielded ops a.tmps) = true := by unfold Region.wanted; rw [hg]
      unfold wpListIn at h2
      rw [if_pos hwt] at h2 ⊢
      refine Oper.wpIn_both (fun a' w' hx => ?_) (fun e a w hn hx => ?_) h2
      · obtain ⟨env', H', hs', _, od, rfl, hok'⟩ := hx
        rw [over_put] at hs'
        have h3 : anyA K.P .any pre Hs K.n Qp fuel (L.setIfInBounds j true) e := by
          rcases h1.2 with ⟨_, d, _, hk3⟩ | ⟨_, hk3⟩ <;> exact hk3
        rw [lst_set hjL]
        refine ih _ k' (rest.erase j) _ H' e a' w' (by simpa using hL) hdown hcnt (by rw [List.length_erase_of_mem hjrest, hk]; rfl) (hnd.erase j) (fun i hi => ?_) (fun i hi hl => ?_) (fun p hp => ?_) hs' hok' h3
        · have hne : i ≠ j := fun he => by rw [he] at hi; exact absurd hi (hnd.not_mem_erase)
          have := hr1 i (List.mem_of_mem_erase hi)
          exact ⟨this.1, by rw [getD_set_ne true (Ne.symm hne)]; exact this.2⟩
        · obtain ⟨h4, h5⟩ := hset i hl
          exact (List.mem_erase_of_ne h4).2 (hr2 i hi h5)
        · cases hd2 : o.dst with
          | none => rw [hd2] at hp; exact hov p hp
          | some t =>
            rw [hd2] at hp
            rcases List.mem_cons.1 hp with rfl | hp
            · exact ⟨j, hjs, o, ho, hd2⟩
            · exact hov p hp
      · obtain ⟨_, _, _, he, _⟩ := hx; exact absurd he hn
    · -- one that only reads
      rw [if_neg (fun h => hjs (any_beq.1 h))] at h1
      obtain ⟨Hx, hHx⟩ := hok.split
      obtain ⟨hdn, h1⟩ := h1
      have hno : ∀ p ∈ ov, p.1 ∉ o.looksAt ops ∧ o.dst ≠ some p.1 := fun p hp => by
        obtain ⟨s, hs, os, hos, hd2⟩ := hov p hp
        exact hsp.apart j hjm hjs o ho s hs os hos p.1 hd2
      have hwant : ∀ b, Want pre o e b → Want ops o (over ov e) b := fun b hw => over_want (fun p hp => (hno p hp).1) (by
        unfold Want at *
        cases hg : o.guard with
        | none => simpa only [hg] using hw
        | some q =>
          obtain ⟨g, want⟩ := q
          simp only [hg] at hw ⊢
          obtain ⟨t, c, ht2, hc2, hb⟩ := hw
          refine ⟨t, c, ?_, hc2, hb⟩
          obtain ⟨og, hog, hd2⟩ := Option.bind_eq_some_iff.1 ht2
          have hgm : g < m := by rw [← hpz]; exact (Array.getElem?_eq_some_iff.1 hog).1
          rw [hpre g hgm] at hog
          obtain ⟨o2, ho2, he2⟩ := Option.map_eq_some_iff.1 hog
          by_cases hs2 : sp.any (Nat.beq g) = true
          · rw [if_pos hs2] at he2; subst he2; simp [mute] at hd2
          · rw [if_neg hs2] at he2; subst he2; rw [ho2]; exact hd2)
      have hnext : ∀ (od : Option D) (a' : Act) (w' : World), Sat K ((over ov e).putO o.dst od) H a' w' → anyA K.P .any pre Hs K.n Qp fuel (L.setIfInBounds j true) (e.putO o.dst od) → wpAnyIn (fen K.r) 0 K.P .any ops (liftQ K Qf) (fuel + f) ((lst L (ops.size - m)).setIfInBounds j true) a' w' := fun od a' w' hs' h' => by
        rw [lst_set hjL]
        rw [over_comm ov e o.dst od fun t ht2 p hp he => (hno p hp).2 (by rw [ht2, he])] at hs'
        refine ih _ k rest ov H _ a' w' (by simpa using hL) hdown hcnt hk hnd (fun i hi => ?_) (fun i hi hl => hr2 i hi (hset i hl).2) hov hs' hok h'
        have := hr1 i hi
        have hne : j ≠ i := fun he => hjs (he ▸ this.1)
        exact ⟨this.1, by rw [getD_set_ne true hne]; exact this.2⟩
      rcases h1 with ⟨hw, d, hp, hk3⟩ | ⟨hw, hk3⟩
      · rw [if_pos ((hwant _ hw).wanted hsat)]
        exact ((over_pure (ops := ops) (fun p hp => (hno p hp).1) hp).frame hHx).wp hsat hdn fun a' w' hs' => hnext _ _ _ hs' hk3
      · rw [if_neg (by rw [(hwant _ hw).wanted hsat]; simp)]
        exact ⟨fun _ _ => trivial, hnext _ _ _ (hsat.put (Kept.refl _ _) hdn (fun d hd => by cases hd; exact .v _)) hk3⟩
end
section
variable {K : Ctx} {Q : Exit → Env → Hp → Prop} {env : Env} {H Hs : Hp}
theorem lexA_ex {P : Program} {ops : Array Oper} {H : Hp} {n : Nat} {Q : Env → Prop} : ∀ (l : List Oper) (env : Env), lexA P ops H n Q l env → ∃ e0, Q e0 ∧ lexA P ops H n (fun e => e = e0) l env
  | [], env, h => ⟨env, h, rfl⟩
  | o :: l, env, h => by
    obtain ⟨hd, h⟩ := h
    rcases h with ⟨hw, d, hp, hk⟩ | ⟨hw, hk⟩
    · obtain ⟨e0, h1, h2⟩ := lexA_ex l _ hk
      exact ⟨e0, h1, hd, .inl ⟨hw, d, hp, h2⟩⟩
    · obtain ⟨e0, h1, h2⟩ := lexA_ex l _ hk
      exact ⟨e0, h1, hd, .inr ⟨hw, h2⟩⟩
theorem TC.drawSp {id : Nat} {l : List Oper} (m : Nat) (sp : List Nat) (Hs : Hp) (hm : K.P.follows .mixedOrders = true) (hnd : sp.Nodup) (hB : Region.lexFrom .any (muted sp 0 (l.take m)).toArray (l.take m).length 0 (Array.replicate (l.take m).length false) = true)
    (ht : tailB .any l.toArray m = true) (hs : spB l.toArray m sp = true) (h : TD K (muted sp 0 (l.take m)).toArray (muted sp 0 (l.take m)) (fun _ e0 _ => SpOK K l.toArray Hs (fun e => e = e0) Q (l.drop m) sp.length sp [] H) env Hs) : TC K (.region id l.toArray true) Q env H := fun a w hsat => by
  obtain ⟨e0, hok, h⟩ := lexA_ex _ _ h
  refine wpIn_region_any hm ?_
  have hT := tailP ht
  have hS := spP hs
  have hml : m < l.length := by have := hT.lt; simpa using this
  have htk : (l.take m).length = m := by rw [List.length_take]; omega
  have hmz : (muted sp 0 (l.take m)).length = m := by rw [muted_len, htk]
  rw [htk] at hB
  have hpre : ∀ i, i < m → (muted sp 0 (l.take m)).toArray[i]? = (l.toArray[i]?).map fun o => if sp.any (Nat.beq i) then mute o else o := fun i hi => by
    simp [muted_get, List.getElem?_take, hi]
  have hback : ∀ (j : Nat) (o : Oper), (muted sp 0 (l.take m)).toArray[j]? = some o → ∀ e ∈ o.after, Region.binds .any e = true → e.on < j := fun j o ho e he hb => by
    have hj : j < m := by have := (Array.getElem?_eq_some_iff.1 ho).1; simpa [hmz] using this
    rw [hpre j hj] at ho
    obtain ⟨o2, ho2, he2⟩ := Option.map_eq_some_iff.1 ho
    refine hT.back j o2 ho2 e ?_ hb
    by_cases hs2 : sp.any (Nat.beq j) = true
    · rw [if_pos hs2] at he2; subst he2; exact he
    · rw [if_neg hs2] at he2; subst he2; exact he
  have hlex := anyA_lex (P := K.P) (H := Hs) (n := K.n) (md := .any) (ops := (muted sp 0 (l.take m)).toArray) (Q := fun e => e = e0) (muted sp 0 (l.take m)) 0 (Array.replicate m false) env (by simp) (by rw [hmz]; exact hB) h
  rw [hmz] at hlex
  have := wpAny_sp (K := K) (Qf := Q) (tl := l.drop m) (pre := (muted sp 0 (l.take m)).toArray) hT hS (by simpa using hmz) hpre hback (l.length - m) (by simp) (fun i => by simp [List.getElem?_drop])
    m (Array.replicate m false) sp.length sp [] H env a _ (by simp) (fun j o ho hl => by
        simp only [Array.getD_eq_getD_getElem?, Array.getElem?_replicate] at hl
        split at hl <;> cases hl) (by simp) rfl hnd (fun i hi => ⟨hi, by simp [Array.getD_eq_getD_getElem?, Array.getElem?_replicate, hS.lt i hi]⟩) (fun i hi _ => hi) (fun p hp => by cases hp) hsat.drew hok hlex
  have e1 : l.toArray.size = m + (l.length - m) := by simp; omega
  rw [e1]
  simpa [lst, Array.replicate_append_replicate] using this
theorem TD.mute {ops : Array Oper} {o : Oper} {rest : List Oper} {Q : Exit → Env → Hp → Prop} (h : TD K ops rest Q env Hs) : TD K ops (mute o :: rest) Q env Hs := by
  refine TD.run (d := .v undef) rfl (pure_move rfl) (fun t h => by cases h) h
theorem TC.thenCut {c d : Code} (Post : Env → Hp → Prop) (h : TC K c (fun e env H => e = .normal ∧ Post env H) env H) (h' : ∀ env' H', Post env' H' → TC K d Q env' H') : TC K c (thenA K d Q) env H :=
  h.mono fun e env H ⟨he, hp⟩ => by subst he; exact h' env H hp
end
end Go.Ob
set_option linter.unusedVariables false
set_option linter.unusedSimpArgs false
namespace Go.Ob
open Go.Proofs
section
variable {P : Program} {ops : Array Oper} {md : Region.Mode} {H : Oper → Hp} {n : Nat}
def stepF (P : Program) (ops : Array Oper) (H : Oper → Hp) (n : Nat) (o : Oper) (Kt : Env → Prop) (env : Env) : Prop :=
  (∀ t, o.dst = some t → t < n) ∧
  ((Want ops o env true ∧ ∃ d, Pure P (H o) o env d ∧ Kt (env.putO o.dst (some d))) ∨ (Want ops o env false ∧ Kt (env.putO o.dst (some (.v undef)))))
def qF (P : Program) (ops : Array Oper) (H : Oper → Hp) (n : Nat) (i : Nat) (Kt : Env → Prop) (env : Env) : Prop :=
  match ops[i]? with
  | none => Kt env
  | some o => stepF P ops H n o Kt env
def lexF (P : Program) (ops : Array Oper) (H : Oper → Hp) (n : Nat) (Q : Env → Prop) : List Oper → Env → Prop
  | [], env => Q env
  | o :: rest, env => stepF P ops H n o (lexF P ops H n Q rest) env
def anyF (P : Program) (md : Region.Mode) (ops : Array Oper) (H : Oper → Hp) (n : Nat) (Q : Env → Prop) : Nat → Array Bool → Env → Prop
  | 0, listed, env => Region.ready md ops listed = [] ∧ Q env
  | fuel + 1, listed, env =>
    (Region.ready md ops listed = [] → Q env) ∧
    ∀ i ∈ Region.ready md ops listed, qF P ops H n i (anyF P md ops H n Q fuel (listed.setIfInBounds i true)) env
theorem stepF_mono {o : Oper} {Kt Kt' : Env → Prop} {env : Env} (h : ∀ e, Kt e → Kt' e) (hh : stepF P ops H n o Kt env) : stepF P ops H n o Kt' env :=
  ⟨hh.1, hh.2.imp (fun ⟨hw, d, hp, hk⟩ => ⟨hw, d, hp, h _ hk⟩) (fun ⟨hw, hk⟩ => ⟨hw, h _ hk⟩)⟩
theorem qF_mono {i : Nat} {Kt Kt' : Env → Prop} {env : Env} (h : ∀ e, Kt e → Kt' e) (hh : qF P ops H n i Kt env) : qF P ops H n i Kt' env := by
  unfold qF at *
  split
  · exact h _ (by simpa [*] using hh)
  · rename_i o ho
    simp only [ho] at hh
    exact stepF_mono h hh
def YieldsF (P : Program) (ops : Array Oper) (H : Oper → Hp) (o : Oper) (od : Option D) (env : Env) : Prop :=
  (Want ops o env true ∧ ∃ d, od = some d ∧ Pure P (H o) o env d) ∨ (Want ops o env false ∧ od = some (.v undef))
theorem YieldsF.putO {o : Oper} {od : Option D} {env : Env} {dst : Option Nat} {od' : Option D} (h : ∀ t, dst = some t → t ∉ o.looksAt ops) :
    YieldsF P ops H o od (env.putO dst od') ↔ YieldsF P ops H o od env := by
  unfold YieldsF
  rw [Want.putO h, Want.putO h]
  constructor
  · rintro (⟨hw, d, hd, hp⟩ | hh)
    · exact .inl ⟨hw, d, hd, (Pure.putO h).1 hp⟩
    · exact .inr hh
  · rintro (⟨hw, d, hd, hp⟩ | hh)
    · exact .inl ⟨hw, d, hd, (Pure.putO h).2 hp⟩
    · exact .inr hh
theorem YieldsF.qF {i : Nat} {o : Oper} {od : Option D} {env : Env} (hi : ops[i]? = some o) (hn : ∀ t, o.dst = some t → t < n) (hy : YieldsF P ops H o od env)
    {Kt : Env → Prop} (h : Kt (env.putO o.dst od)) : qF P ops H n i Kt env := by
  unfold Ob.qF
  simp only [hi]
  refine ⟨hn, ?_⟩
  rcases hy with ⟨hw, d, rfl, hp⟩ | ⟨hw, rfl⟩
  · exact .inl ⟨hw, d, hp, h⟩
  · exact .inr ⟨hw, h⟩
theorem yieldsF_of_step {o : Oper} {env : Env} {Kt : Env → Prop} (h : stepF P ops H n o Kt env) : ∃ od, YieldsF P ops H o od env ∧ Kt (env.putO o.dst od) := by
  rcases h.2 with ⟨hw, d, hp, hk⟩ | ⟨hw, hk⟩
  · exact ⟨some d, .inl ⟨hw, d, rfl, hp⟩, hk⟩
  · exact ⟨some (.v undef), .inr ⟨hw, rfl⟩, hk⟩
theorem qF_put {j : Nat} {oi oj : Oper} {od : Option D} (hj : ops[j]? = some oj) (hap : oi.apart ops oj = true) {Kt : Env → Prop} {env : Env}
    (hy : YieldsF P ops H oi od env) (h : qF P ops H n j Kt (env.putO oi.dst od)) :
    qF P ops H n j (fun e => YieldsF P ops H oi od e ∧ Kt (e.putO oi.dst od)) env := by
  obtain ⟨h1, h2, h3⟩ := Oper.apart_spec hap
  unfold qF at *
  simp only [hj] at *
  refine ⟨h.1, ?_⟩
  rcases h.2 with ⟨hw, d, hp, hk⟩ | ⟨hw, hk⟩
  · refine .inl ⟨(Want.putO h1).1 hw, d, (Pure.putO h1).1 hp, (YieldsF.putO h3).2 hy, ?_⟩
    rw [← Env.putO_comm env od (some d) h2]; exact hk
  · refine .inr ⟨(Want.putO h1).1 hw, (YieldsF.putO h3).2 hy, ?_⟩
    rw [← Env.putO_comm env od (some (.v undef)) h2]; exact hk
theorem anyF_first {Q : Env → Prop} {i : Nat} {oi : Oper} {od : Option D} (hi : ops[i]? = some oi) (hn : ∀ t, oi.dst = some t → t < n) :
    ∀ (fuel : Nat) (listed : Array Bool) (env : Env),
      (∀ j oj, ops[j]? = some oj → j ≠ i → listed.getD j true = false → (∀ e ∈ oj.after, Region.binds md e = true → e.on ≠ i) → oi.apart ops oj = true) →
      i ∈ Region.ready md ops listed → YieldsF P ops H oi od env →
      anyF P md ops H n Q fuel (listed.setIfInBounds i true) (env.putO oi.dst od) → anyF P md ops H n Q (fuel + 1) listed env := by
  intro fuel
  induction fuel with
  | zero =>
    intro listed env _ hr hy HH
    refine ⟨fun h => (by rw [h] at hr; cases hr), fun j hj => ?_⟩
    by_cases hji : j = i
    · subst hji; exact hy.qF hi hn HH
    · have := ready_mono hj hji
      rw [HH.1] at this
      cases this
  | succ fuel ih =>
    intro listed env hfree hr hy HH
    refine ⟨fun h => (by rw [h] at hr; cases hr), fun j hj => ?_⟩
    by_cases hji : j = i
    · subst hji; exact hy.qF hi hn HH
    · have h1 := HH.2 j (ready_mono hj hji)
      obtain ⟨hjun, oj, hoj, hall⟩ := mem_ready.1 hj
      have hnot : ∀ e ∈ oj.after, Region.binds md e = true → e.on ≠ i := fun e he hb heq => by
        have h1 := hall e he hb
        have h0 := (mem_ready.1 hr).1
        rw [heq] at h1
        rcases Nat.lt_or_ge i listed.size with h' | h'
        · simp [h'] at h0 h1; rw [h0] at h1; cases h1
        · simp [Array.getElem?_eq_none h'] at h1
      have h2 := qF_put hoj (hfree j oj hoj hji hjun hnot) hy h1
      have hfree' : ∀ k ok, ops[k]? = some ok → k ≠ i → (listed.setIfInBounds j true).getD k true = false →
          (∀ e ∈ ok.after, Region.binds md e = true → e.on ≠ i) → oi.apart ops ok = true := fun k ok hk hki hun hno => by
        refine hfree k ok hk hki ?_ hno
        by_cases hjk : j = k
        · subst hjk; exact hjun
        · rw [getD_set_ne true hjk] at hun; exact hun
      refine qF_mono (fun e h3 => ih (listed.setIfInBounds j true) e hfree' (ready_mono hr (Ne.symm hji)) h3.1 ?_) h2
      rw [Array.setIfInBounds_comm _ _ hji]
      exact h3.2
theorem anyF_lex {Q : Env → Prop} : ∀ (l : List Oper) (k : Nat) (listed : Array Bool) (env : Env), (∀ j, l[j]? = ops[k + j]?) →
    Region.lexFrom md ops l.length k listed = true → lexF P ops H n Q l env → anyF P md ops H n Q l.length listed env
  | [], _, _, _, _, hB, h => ⟨by simpa [Region.lexFrom] using hB, h⟩
  | o :: l, k, listed, env, hl, hB, h => by
    have h0 : ops[k]? = some o := by simpa using (hl 0).symm
    simp only [List.length_cons, Region.lexFrom, Bool.and_eq_true] at hB
    obtain ⟨⟨hr, hf⟩, hB'⟩ := hB
    obtain ⟨od, hy, hK⟩ := yieldsF_of_step (show stepF P ops H n o (lexF P ops H n Q l) env from h)
    exact anyF_first h0 h.1 l.length listed env (Region.free_spec h0 hf) (by simpa using hr) hy
      (anyF_lex l (k + 1) _ _ (fun j => by have := hl (j + 1); simpa [Nat.add_assoc, Nat.add_comm 1 j] using this) hB' hK)
end
section
variable {K : Ctx} {ops : Array Oper} {Hs H0 Hy : Hp} {Qp : Env → Prop} {Qf : Exit → Env → Hp → Prop} {tl : List Oper}
theorem anyF_last {H : Oper → Hp} {m : Nat} {pre : Array Oper} (hback : ∀ (j : Nat) (o : Oper), pre[j]? = some o → ∀ e ∈ o.after, Region.binds .any e = true → e.on < j) (hpz : pre.size = m) :
    ∀ (fuel : Nat) (L : Array Bool) (env : Env), L.size = m → L.toList.count false = fuel → anyF K.P .any pre H K.n Qp fuel L env →
      ∃ envF, Qp envF ∧ ∀ t, (∀ i o, pre[i]? = some o → L.getD i true = false → o.dst ≠ some t) → envF t = env t := by
  intro fuel
  induction fuel with
  | zero => intro L env hL hc h; exact ⟨env, h.2, fun t _ => rfl⟩
  | succ fuel ih =>
    intro L env hL hc h
    obtain ⟨i, hi, hif, hib⟩ := first_false (L := L) (by omega)
    have hipre : i < pre.size := by omega
    have hir : i ∈ Region.ready .any pre L := mem_ready.2 ⟨hif, pre[i], Array.getElem?_eq_getElem hipre, fun e he hb => hib _ (hback i pre[i] (Array.getElem?_eq_getElem hipre) e he hb)⟩
    have h1 := h.2 i hir
    have hc' : (L.setIfInBounds i true).toList.count false = fuel := by
      have hjl2 : i < L.toList.length := by simpa using hi
      have e1 : (L.setIfInBounds i true).toList = L.toList.set i true := by simp
      rw [e1, List.count_set hjl2]
      have : L.toList[i] = false := by simpa [Array.getD_eq_getD_getElem?, Array.getElem?_eq_getElem hi] using hif
      rw [this]
      simp only [beq_self_eq_true, if_true]
      have : (true == false) = false := rfl
      rw [this]
      simp only [Bool.false_eq_true, if_false]
      omega
    unfold qF at h1
    simp only [Array.getElem?_eq_getElem hipre] at h1
    have fin : ∀ od, anyF K.P .any pre H K.n Qp fuel (L.setIfInBounds i true) (env.putO pre[i].dst od) → ∃ envF, Qp envF ∧ ∀ t, (∀ i o, pre[i]? = some o → L.getD i true = false → o.dst ≠ some t) → envF t = env t := fun od hk => by
      obtain ⟨envF, hq, hf⟩ := ih _ _ (by simpa using hL) hc' hk
      refine ⟨envF, hq, fun t ht' => ?_⟩
      rw [hf t fun i' o' ho' hl' => ht' i' o' ho' (by
        by_cases hii : i = i'
        · subst hii; exact hif
        · rwa [getD_set_ne true hii] at hl')]
      have := ht' i pre[i] (Array.getElem?_eq_getElem hipre) hif
      cases hd : pre[i].dst with
      | none => rfl
      | some d =>
        rw [hd] at this
        exact Env.put_other fun e => this (by rw [e])
    rcases h1.2 with ⟨hw, d, hp, hk⟩ | ⟨hw, hk⟩
    · exact fin _ hk
    · exact fin _ hk
def early (E : List Nat) (o : Oper) : Bool := match o.dst with
  | some t => E.any (Nat.beq t)
  | none => false
def hpF (E : List Nat) (H0 Hs : Hp) (o : Oper) : Hp := cond (early E o) H0 Hs
theorem anyF_anyA {P : Program} {pre : Array Oper} {Hf : Oper → Hp} {n : Nat} {Q : Env → Prop} : ∀ (fuel : Nat) (L : Array Bool) (e : Env), (∀ i o, pre[i]? = some o → L.getD i true = false → Hf o = Hs) → anyF P .any pre Hf n Q fuel L e → anyA P .any pre Hs n Q fuel L e
  | 0, _, _, _, h => h
  | fuel + 1, L, e, hne, h => ⟨h.1, fun i hi => by
    have h1 := h.2 i hi
    obtain ⟨hl, _⟩ := mem_ready.1 hi
    have hne' : ∀ j o, pre[j]? = some o → (L.setIfInBounds i true).getD j true = false → Hf o = Hs := fun j o ho hj => by
      by_cases hij : i = j
      · subst hij; exact hne i o ho hl
      · rw [getD_set_ne true hij] at hj; exact hne j o ho hj
    unfold qF at h1
    unfold qA
    split
    · rename_i ho
      simp only [ho] at h1
      exact anyF_anyA fuel _ _ hne' h1
    · rename_i o ho
      simp only [ho] at h1
      refine ⟨h1.1, h1.2.imp (fun ⟨hw, d, hp, hk⟩ => ⟨hw, d, ?_, anyF_anyA fuel _ _ hne' hk⟩) (fun ⟨hw, hk⟩ => ⟨hw, anyF_anyA fuel _ _ hne' hk⟩)⟩
      rw [hne i o ho hl] at hp; exact hp⟩
def anc (ops : Array Oper) : Nat → Nat → Nat → Bool
  | 0, _, _ => false
  | f + 1, s, i => bindsOn .any ops s i || (List.range s).any fun p => bindsOn .any ops s p && anc ops f p i
theorem anc_done {L : Array Bool} (hd : Down .any ops L) : ∀ (f s i : Nat), anc ops f s i = true → (∀ p, bindsOn .any ops s p = true → L.getD p false = true) → L.getD i false = true
  | 0, _, _, h, _ => by cases h
  | f + 1, s, i, h, hs => by
    unfold anc at h
    rw [Bool.or_eq_true] at h
    rcases h with h | h
    · exact hs i h
    · rw [List.any_eq_true] at h
      obtain ⟨p, _, hp⟩ := h
      rw [Bool.and_eq_true] at hp
      refine anc_done hd f p i hp.2 fun q hq => ?_
      obtain ⟨o, ho, e, he, hb, heq⟩ := bindsOn_spec hq
      rw [← heq]
      exact hd p o ho (hs p hp.1) e he hb
def SqTop (K : Ctx) (ops : Array Oper) (H0 Hs : Hp) (Qp : Env → Prop) (Qf : Exit → Env → Hp → Prop) (tl : List Oper) (k : Nat) (sp : List Nat) (H : Hp) : Prop :=
  (∃ Hx, SplitR H H0 Hx) ∧ ∀ s ∈ sp, (∀ i ∈ sp, bindsOn .any ops s i = false) → ∃ o, ops[s]? = some o ∧ o.guard = none ∧
      ∀ E eF, Qp eF → (∀ x ∈ o.op.operands, opD E x = opD eF x) → TL K ops [o] (fun e E' H' => e = .normal ∧ ∃ od, E' = E.putO o.dst od ∧ SpOK K ops Hs Qp Qf tl k (sp.erase s) (ovp [] o.dst od) H') E H
theorem wpAny_sq {k : Nat} {E : List Nat} {m : Nat} {pre : Array Oper} {sp : List Nat} (ht : TailP .any ops m) (hsp : SpP ops m sp) (hpz : pre.size = m) (hpre : ∀ i, i < m → pre[i]? = (ops[i]?).map fun o => if sp.any (Nat.beq i) then mute o else o)
    (hback : ∀ (j : Nat) (o : Oper), pre[j]? = some o → ∀ e ∈ o.after, Region.binds .any e = true → e.on < j)
    (hk : sp.length = k + 1) (hnd : sp.Nodup) (h0s : SplitR H0 Hs Hy) (hea : ∀ i, i < m → i ∉ sp → ∀ o, ops[i]? = some o → early E o = true → ∀ s ∈ sp, anc ops m s i = true)
    (f : Nat) (hf : f = ops.size - m) (htl : ∀ i, tl[i]? = ops[m + i]?) :
    ∀ (fuel : Nat) (L : Array Bool) (H : Hp) (e : Env) (a : Act) (w : World), L.size = m → Down .any ops L → L.toList.count false = fuel →
      (∀ i ∈ sp, L.getD i true = false) → Sat K e H a w → SqTop K ops H0 Hs Qp Qf tl k sp H → anyF K.P .any pre (hpF E H0 Hs) K.n Qp fuel L e →
      wpAnyIn (fen K.r) 0 K.P .any ops (liftQ K Qf) (fuel + f) (lst L (ops.size - m)) a w := by
  intro fuel
  induction fuel with
  | zero =>
    intro L H e a w hL hd hc hr1 hsat hok h
    have hall := all_true hc
    exfalso
    cases sp with
    | nil => simp at hk
    | cons i rest =>
      have h1 := hr1 i (by simp)
      have h2 := hsp.lt i (by simp)
      rw [hall] at h1
      simp [Array.getD_eq_getD_getElem?, hL, h2] at h1
  | succ fuel ih =>
    intro L H e a w hL hd hc hr1 hsat hok h
    obtain ⟨i, hi, hif, hib⟩ := first_false (L := L) (by omega)
    have hif' : L.getD i false = false := by
      simp only [Array.getD_eq_getD_getElem?, Array.getElem?_eq_getElem hi, Option.getD_some] at hif ⊢
      exact hif
    have hiops : i < ops.size := by have := ht.lt; omega
    have hir : i ∈ Region.ready .any ops (lst L (ops.size - m)) := mem_ready.2 ⟨by rw [lst_get true hi]; exact hif, ops[i], Array.getElem?_eq_getElem hiops, fun e he hb => by
      have hlt := ht.back i _ (Array.getElem?_eq_getElem hiops) e he hb
      rw [lst_get false (by omega)]
      exact hib _ hlt⟩
    rw [show fuel + 1 + f = (fuel + f) + 1 by omega]
    refine ⟨fun h0 => (by rw [h0] at hir; cases hir), fun j hj => ?_⟩
    have hjm : j < m := ready_pre ht hL hd hj (hL ▸ hi) hif'
    obtain ⟨hjl, o, ho, hall⟩ := mem_ready.1 hj
    have hjL : j < L.size := by omega
    rw [lst_get true hjL] at hjl
    have hdown : Down .any ops (L.setIfInBounds j true) := fun j' o' ho' hl' e he hb => by
      by_cases hjj : j = j'
      · subst hjj
        rw [ho] at ho'; cases ho'
        have hlt := ht.back j o ho e he hb
        have := hall e he hb
        rw [lst_get false (by omega)] at this
        exact getD_set_true this
      · rw [getD_set_ne false hjj] at hl'
        exact getD_set_true (hd j' o' ho' hl' e he hb)
    have hcnt : (L.setIfInBounds j true).toList.count false = fuel := by
      have hjl2 : j < L.toList.length := by simpa using hjL
      have e1 : (L.setIfInBounds j true).toList = L.toList.set j true := by simp
      rw [e1, List.count_set hjl2]
      have : L.toList[j] = false := by
        have : L[j] = false := by simpa [Array.getD_eq_getD_getElem?, Array.getElem?_eq_getElem hjL] using hjl
        simpa using this
      rw [this]
      simp only [beq_self_eq_true, if_true]
      have : (true == false) = false := rfl
      rw [this]
      simp only [Bool.false_eq_true, if_false]
      omega
    have hset : ∀ i, (L.setIfInBounds j true).getD i true = false → i ≠ j ∧ L.getD i true = false := fun i h => by
      by_cases hij : j = i
      · subst hij
        simp [Array.getD_eq_getD_getElem?, hjL] at h
      · rw [getD_set_ne true hij] at h; exact ⟨fun e => hij e.symm, h⟩
    have hprej : pre[j]? = some (if sp.any (Nat.beq j) then mute o else o) := by rw [hpre j hjm, ho]; rfl
    have hjr : j ∈ Region.ready .any pre L := mem_ready.2 ⟨hjl, _, hprej, fun e he hb => by
      have he' : e ∈ o.after := by
        by_cases hs : sp.any (Nat.beq j) = true
        · rw [if_pos hs] at he; exact he
        · rw [if_neg hs] at he; exact he
      have hlt := ht.back j o ho e he' hb
      have := hall e he' hb
      rwa [lst_get false (by omega)] at this⟩
    have h1 := h.2 j hjr
    unfold qF at h1
    simp only [hprej] at h1
    unfold wpOpIn
    simp only [ho]
    by_cases hjs : j ∈ sp
    · -- a special one
      rw [if_pos (any_beq.2 hjs)] at h1
      obtain ⟨envF, hqF, hF⟩ := anyF_last hback hpz (fuel + 1) L e hL hc h
      have hbnd : ∀ i, bindsOn .any ops j i = true → L.getD i true = false → False := fun i hb hl => by
        obtain ⟨o2, ho2, ed, he, hb, heq⟩ := bindsOn_spec hb
        rw [ho] at ho2; cases ho2
        have hlt := ht.back j o ho ed he hb
        have := hall ed he hb
        rw [heq, lst_get false (by omega)] at this
        rw [heq] at hlt
        have hiL : i < L.size := by omega
        simp only [Array.getD_eq_getD_getElem?, Array.getElem?_eq_getElem hiL, Option.getD_some] at this hl
        rw [this] at hl; cases hl
      obtain ⟨o', ho', hg, hst⟩ := hok.2 j hjs fun i hi => by
        cases hb : bindsOn .any ops j i with
        | false => rfl
        | true => exact (hbnd i hb (hr1 i hi)).elim
      rw [ho] at ho'; cases ho'
      have hopd : ∀ x ∈ o.op.operands, opD e x = opD envF x := fun x hx => by
        cases x with
        | tmp t =>
          refine (hF t fun i' o1 ho1 hl1 hd1 => ?_).symm
          have hi' : i' < m := by rw [← hpz]; exact (Array.getElem?_eq_some_iff.1 ho1).1
          rw [hpre i' hi'] at ho1
          obtain ⟨o2, ho2, he2⟩ := Option.map_eq_some_iff.1 ho1
          by_cases hs2 : sp.any (Nat.beq i') = true
          · rw [if_pos hs2] at he2; subst he2; simp [mute] at hd1
          · rw [if_neg hs2] at he2; subst he2
            exact hbnd i' (hsp.feeds j hjs o ho t hx i' hi' (fun h => hs2 (any_beq.2 h)) o2 ho2 hd1) hl1
        | _ => rfl
      have h2 := hst e envF hqF hopd a w hsat
      have hwt : Region.wanted o (yielded ops a.tmps) = true := by unfold Region.wanted; rw [hg]
      unfold wpListIn at h2
      rw [if_pos hwt] at h2 ⊢
      refine Oper.wpIn_both (fun a' w' hx => ?_) (fun e a w hn hx => ?_) h2
      · obtain ⟨env', H', hs', _, od, rfl, hok'⟩ := hx
        have hs2 : Sat K (over (ovp [] o.dst od) e) H' a' w' := by rw [← over_put]; exact hs'
        have h3 : anyF K.P .any pre (hpF E H0 Hs) K.n Qp fuel (L.setIfInBounds j true) e := by
          rcases h1.2 with ⟨_, d, _, hk3⟩ | ⟨_, hk3⟩ <;> exact hk3
        have hpd : ∀ p, bindsOn .any ops j p = true → L.getD p false = true := fun p hb => by
          obtain ⟨o2, ho2, ed, he, hb2, heq⟩ := bindsOn_spec hb
          rw [ho] at ho2; cases ho2
          have hlt := ht.back j o ho ed he hb2
          have := hall ed he hb2
          rw [lst_get false (by omega)] at this
          rw [← heq]; exact this
        have h4 := anyF_anyA (Hs := Hs) fuel _ _ (fun i o1 ho1 hl1 => by
          have hi' : i < m := by rw [← hpz]; exact (Array.getElem?_eq_some_iff.1 ho1).1
          obtain ⟨h5, h6⟩ := hset i hl1
          unfold hpF
          cases hE : early E o1 with
          | false => rfl
          | true =>
            exfalso
            rw [hpre i hi'] at ho1
            obtain ⟨o2, ho2, he2⟩ := Option.map_eq_some_iff.1 ho1
            by_cases hs3 : sp.any (Nat.beq i) = true
            · rw [if_pos hs3] at he2; subst he2; simp [early, mute] at hE
            · rw [if_neg hs3] at he2; subst he2
              have h7 := anc_done hd m j i (hea i hi' (fun h => hs3 (any_beq.2 h)) o2 ho2 hE j hjs) hpd
              have hiL : i < L.size := by omega
              simp only [Array.getD_eq_getD_getElem?, Array.getElem?_eq_getElem hiL, Option.getD_some] at h6 h7
              rw [h6] at h7; cases h7) h3
        rw [lst_set hjL]
        refine wpAny_sp (sp := sp) ht hsp hpz hpre hback f hf htl fuel _ k (sp.erase j) _ H' e a' w' (by simpa using hL) hdown hcnt (by rw [List.length_erase_of_mem hjs, hk]; rfl) (hnd.erase j) (fun i hi => ?_) (fun i hi hl => ?_) (fun p hp => ?_) hs2 hok' h4
        · have hne : i ≠ j := fun he => by rw [he] at hi; exact absurd hi (hnd.not_mem_erase)
          have := List.mem_of_mem_erase hi
          exact ⟨this, by rw [getD_set_ne true (Ne.symm hne)]; exact hr1 i this⟩
        · obtain ⟨h4, h5⟩ := hset i hl
          exact (List.mem_erase_of_ne h4).2 hi
        · cases hd2 : o.dst with
          | none => rw [hd2] at hp; cases hp
          | some t =>
            rw [hd2] at hp
            rcases List.mem_cons.1 hp with rfl | hp
            · exact ⟨j, hjs, o, ho, hd2⟩
            · cases hp
      · obtain ⟨_, _, _, he, _⟩ := hx; exact absurd he hn
    · -- one that only reads
      rw [if_neg (fun h => hjs (any_beq.1 h))] at h1
      obtain ⟨Hx, hHx⟩ := hok.1
      obtain ⟨hdn, h1⟩ := h1
      have hwant : ∀ b, Want pre o e b → Want ops o e b := fun b hw => (by
        unfold Want at *
        cases hg : o.guard with
        | none => simpa only [hg] using hw
        | some q =>
          obtain ⟨g, want⟩ := q
          simp only [hg] at hw ⊢
          obtain ⟨t, c, ht2, hc2, hb⟩ := hw
          refine ⟨t, c, ?_, hc2, hb⟩
          obtain ⟨og, hog, hd2⟩ := Option.bind_eq_some_iff.1 ht2
          have hgm : g < m := by rw [← hpz]; exact (Array.getElem?_eq_some_iff.1 hog).1
          rw [hpre g hgm] at hog
          obtain ⟨o2, ho2, he2⟩ := Option.map_eq_some_iff.1 hog
          by_cases hs2 : sp.any (Nat.beq g) = true
          · rw [if_pos hs2] at he2; subst he2; simp [mute] at hd2
          · rw [if_neg hs2] at he2; subst he2; rw [ho2]; exact hd2)
      have hnext : ∀ (od : Option D) (a' : Act) (w' : World), Sat K (e.putO o.dst od) H a' w' → anyF K.P .any pre (hpF E H0 Hs) K.n Qp fuel (L.setIfInBounds j true) (e.putO o.dst od) → wpAnyIn (fen K.r) 0 K.P .any ops (liftQ K Qf) (fuel + f) ((lst L (ops.size - m)).setIfInBounds j true) a' w' := fun od a' w' hs' h' => by
        rw [lst_set hjL]
        refine ih _ H _ a' w' (by simpa using hL) hdown hcnt (fun i hi => ?_) hs' hok h'
        have := hr1 i hi
        have hne : j ≠ i := fun he => hjs (he ▸ hi)
        rw [getD_set_ne true hne]; exact this
      rcases h1 with ⟨hw, d, hp, hk3⟩ | ⟨hw, hk3⟩
      · rw [if_pos ((hwant _ hw).wanted hsat)]
        have hp2 : Pure K.P H o e d := by
          unfold hpF at hp
          cases hE : early E o with
          | true => rw [hE] at hp; exact Pure.frame hHx hp
          | false => rw [hE] at hp; exact Pure.frame hHx (Pure.frame h0s hp)
        exact hp2.wp hsat hdn fun a' w' hs' => hnext _ _ _ hs' hk3
      · rw [if_neg (by rw [(hwant _ hw).wanted hsat]; simp)]
        exact ⟨fun _ _ => trivial, hnext _ _ _ (hsat.put (Kept.refl _ _) hdn (fun d hd => by cases hd; exact .v _)) hk3⟩
end
section
variable {K : Ctx} {Q : Exit → Env → Hp → Prop} {env : Env} {H Hs H0 Hy : Hp}
theorem lexF_ex {P : Program} {ops : Array Oper} {H : Oper → Hp} {n : Nat} {Q : Env → Prop} : ∀ (l : List Oper) (env : Env), lexF P ops H n Q l env → ∃ e0, Q e0 ∧ lexF P ops H n (fun e => e = e0) l env
  | [], env, h => ⟨env, h, rfl⟩
  | o :: l, env, h => by
    obtain ⟨hd, h⟩ := h
    rcases h with ⟨hw, d, hp, hk⟩ | ⟨hw, hk⟩
    · obtain ⟨e0, h1, h2⟩ := lexF_ex l _ hk
      exact ⟨e0, h1, hd, .inl ⟨hw, d, hp, h2⟩⟩
    · obtain ⟨e0, h1, h2⟩ := lexF_ex l _ hk
      exact ⟨e0, h1, hd, .inr ⟨hw, h2⟩⟩
def sqB (ops : Array Oper) (pl : List Oper) (m p : Nat) (sp : List Nat) : Bool :=
  (pl.take p).all (fun o => o.dst.isSome) && (pl.drop p).all (fun o => !(early ((pl.take p).filterMap (·.dst)) o)) &&
  (List.range m).all (fun i => sp.any (Nat.beq i) || match ops[i]? with
    | none => true
    | some o => !(early ((pl.take p).filterMap (·.dst)) o) || sp.all fun s => anc ops m s i)
theorem lexF_of_lexA {P : Program} {ops : Array Oper} {Hf : Oper → Hp} {n : Nat} {Q : Env → Prop} : ∀ (l l2 : List Oper) (env : Env), (∀ o ∈ l, Hf o = H0) → lexA P ops H0 n (fun e => lexF P ops Hf n Q l2 e) l env → lexF P ops Hf n Q (l ++ l2) env
  | [], _, _, _, h => h
  | o :: l, l2, env, hl, h => by
    refine ⟨h.1, h.2.imp (fun ⟨hw, d, hp, hk⟩ => ⟨hw, d, ?_, lexF_of_lexA l l2 _ (fun o ho => hl o (by simp [ho])) hk⟩) (fun ⟨hw, hk⟩ => ⟨hw, lexF_of_lexA l l2 _ (fun o ho => hl o (by simp [ho])) hk⟩)⟩
    rw [hl o (by simp)]; exact hp
theorem lexA_mono {P : Program} {ops : Array Oper} {H : Hp} {n : Nat} {Q Q' : Env → Prop} (hq : ∀ e, Q e → Q' e) : ∀ (l : List Oper) (env : Env), lexA P ops H n Q l env → lexA P ops H n Q' l env
  | [], _, h => hq _ h
  | o :: l, env, h => stepA_mono (fun e he => lexA_mono hq l e he) h
theorem TC.drawSq {id : Nat} {l : List Oper} (m p k : Nat) (sp : List Nat) (H0 Hs : Hp) (hm : K.P.follows .mixedOrders = true) (hnd : sp.Nodup) (hk : sp.length = k + 1) (hB : Region.lexFrom .any (muted sp 0 (l.take m)).toArray (l.take m).length 0 (Array.replicate (l.take m).length false) = true)
    (ht : tailB .any l.toArray m = true) (hs : spB l.toArray m sp = true) (he : sqB l.toArray (muted sp 0 (l.take m)) m p sp = true) (h0s : SplitR H0 Hs Hy)
    (h : TD K (muted sp 0 (l.take m)).toArray ((muted sp 0 (l.take m)).take p) (fun _ e _ => TD K (muted sp 0 (l.take m)).toArray ((muted sp 0 (l.take m)).drop p) (fun _ e0 _ => SqTop K l.toArray H0 Hs (fun e => e = e0) Q (l.drop m) k sp H) e Hs) env H0) : TC K (.region id l.toArray true) Q env H := fun a w hsat => by
  unfold sqB at he
  rw [Bool.and_eq_true, Bool.and_eq_true] at he
  obtain ⟨⟨he1, he2⟩, he3⟩ := he
  have hE1 : ∀ o ∈ (muted sp 0 (l.take m)).take p, hpF (((muted sp 0 (l.take m)).take p).filterMap (·.dst)) H0 Hs o = H0 := fun o ho => by
    obtain ⟨t, ht2⟩ := Option.isSome_iff_exists.1 (List.all_eq_true.1 he1 o ho)
    unfold hpF early
    simp only [ht2]
    rw [any_beq.2 (List.mem_filterMap.2 ⟨o, ho, ht2⟩)]; rfl
  have hE2 : ∀ o ∈ (muted sp 0 (l.take m)).drop p, hpF (((muted sp 0 (l.take m)).take p).filterMap (·.dst)) H0 Hs o = Hs := fun o ho => by
    have := List.all_eq_true.1 he2 o ho
    unfold hpF
    rw [Bool.not_eq_true'] at this
    rw [this]; rfl
  have h' : lexF K.P (muted sp 0 (l.take m)).toArray (hpF (((muted sp 0 (l.take m)).take p).filterMap (·.dst)) H0 Hs) K.n (fun e0 => SqTop K l.toArray H0 Hs (fun e => e = e0) Q (l.drop m) k sp H) (muted sp 0 (l.take m)) env := by
    have := lexF_of_lexA (Hf := hpF (((muted sp 0 (l.take m)).take p).filterMap (·.dst)) H0 Hs) ((muted sp 0 (l.take m)).take p) ((muted sp 0 (l.take m)).drop p) env hE1
      (lexA_mono (fun e hx => by
        have := lexF_of_lexA (H0 := Hs) (Hf := hpF (((muted sp 0 (l.take m)).take p).filterMap (·.dst)) H0 Hs) ((muted sp 0 (l.take m)).drop p) [] e hE2 hx
        rwa [List.append_nil] at this) _ _ h)
    rwa [List.take_append_drop] at this
  obtain ⟨e0, hok, h⟩ := lexF_ex _ _ h'
  refine wpIn_region_any hm ?_
  have hT := tailP ht
  have hS := spP hs
  have hml : m < l.length := by have := hT.lt; simpa using this
  have htk : (l.take m).length = m := by rw [List.length_take]; omega
  have hmz : (muted sp 0 (l.take m)).length = m := by rw [muted_len, htk]
  rw [htk] at hB
  have hpre : ∀ i, i < m → (muted sp 0 (l.take m)).toArray[i]? = (l.toArray[i]?).map fun o => if sp.any (Nat.beq i) then mute o else o := fun i hi => by
    simp [muted_get, List.getElem?_take, hi]
  have hback : ∀ (j : Nat) (o : Oper), (muted sp 0 (l.take m)).toArray[j]? = some o → ∀ e ∈ o.after, Region.binds .any e = true → e.on < j := fun j o ho e he hb => by
    have hj : j < m := by have := (Array.getElem?_eq_some_iff.1 ho).1; simpa [hmz] using this
    rw [hpre j hj] at ho
    obtain ⟨o2, ho2, he2⟩ := Option.map_eq_some_iff.1 ho
    refine hT.back j o2 ho2 e ?_ hb
    by_cases hs2 : sp.any (Nat.beq j) = true
    · rw [if_pos hs2] at he2; subst he2; exact he
    · rw [if_neg hs2] at he2; subst he2; exact he
  have hlex := anyF_lex (P := K.P) (H := hpF (((muted sp 0 (l.take m)).take p).filterMap (·.dst)) H0 Hs) (n := K.n) (md := .any) (ops := (muted sp 0 (l.take m)).toArray) (Q := fun e => e = e0) (muted sp 0 (l.take m)) 0 (Array.replicate m false) env (by simp) (by rw [hmz]; exact hB) h
  rw [hmz] at hlex
  have := wpAny_sq (K := K) (Qf := Q) (tl := l.drop m) (pre := (muted sp 0 (l.take m)).toArray) hT hS (by simpa using hmz) hpre hback hk hnd h0s (fun i hi hns o ho hE s hs2 => by
      have h1 := List.all_eq_true.1 he3 i (List.mem_range.2 hi)
      rw [Bool.or_eq_true] at h1
      rcases h1 with h1 | h1
      · exact absurd (any_beq.1 h1) hns
      simp only [ho] at h1
      rw [hE] at h1
      simpa using List.all_eq_true.1 (by simpa using h1) s hs2) (l.length - m) (by simp) (fun i => by simp [List.getElem?_drop])
    m (Array.replicate m false) H env a _ (by simp) (fun j o ho hl => by
        simp only [Array.getD_eq_getD_getElem?, Array.getElem?_replicate] at hl
        split at hl <;> cases hl) (by simp) (fun i hi => by simp [Array.getD_eq_getD_getElem?, Array.getElem?_replicate, hS.lt i hi]) hsat.drew hok hlex
  have e1 : l.toArray.size = m + (l.length - m) := by simp; omega
  rw [e1]
  simpa [lst, Array.replicate_append_replicate] using this
end
end Go.Ob
/- Rows of the call's own, written in part: copy, append in place, clear, a row made of a part and zeros; parts of rows as values. -/
set_option linter.unusedVariables false
set_option linter.unusedSimpArgs false
set_option linter.unusedSectionVars false
namespace Go.Ob
open Go.RowKit
abbrev RowV (g n cap : Nat) : Value := .slice (some ⟨g, 0, none⟩) n cap
theorem flatten_take {α : Type} {es : Nat} : ∀ (xs : List (List α)) (n : Nat), (∀ x ∈ xs, x.length = es) → (xs.take n).flatten = xs.flatten.take (n * es)
  | [], n, _ => by simp
  | x :: xs, 0, _ => by simp
  | x :: xs, n + 1, h => by
    have hx := h x (by simp)
    rw [List.take_succ_cons, List.flatten_cons, List.flatten_cons, flatten_take xs n fun y hy => h y (by simp [hy]), List.take_append, hx]
    rw [List.take_of_length_le (l := x) (by rw [hx, Nat.add_mul]; omega), show (n + 1) * es - es = n * es by rw [Nat.add_mul, Nat.one_mul]; omega]
theorem flatten_drop {α : Type} {es : Nat} : ∀ (xs : List (List α)) (n : Nat), (∀ x ∈ xs, x.length = es) → (xs.drop n).flatten = xs.flatten.drop (n * es)
  | [], n, _ => by simp
  | x :: xs, 0, _ => by simp
  | x :: xs, n + 1, h => by
    have hx := h x (by simp)
    rw [List.drop_succ_cons, List.flatten_cons, flatten_drop xs n fun y hy => h y (by simp [hy]), List.drop_append, hx]
    rw [@List.drop_eq_nil_of_le _ x _ (by rw [hx, Nat.add_mul]; omega), List.nil_append, show (n + 1) * es - es = n * es by rw [Nat.add_mul, Nat.one_mul]; omega]
section
variable {K : Ctx} {Q : Exit → Env → Hp → Prop} {env : Env} {H H' : Hp} {ops : Array Oper} {rest : List Oper} {t : Nat} {ty : TypeId} {pos : String} {af : Array Edge}
theorem row_cur {w : World} {F : Nat → Prop} (hh : HeapOK w (both F H) H) {g n cap e es : Nat} {xs : List (List D)} (hm : Blk.row (RowV g n cap) e es xs ∈ H) :
    ∃ cur : Array Value, w.heap[g]? = some (.cells cur e (0, 0)) ∧ n = xs.length ∧ xs.length ≤ cap ∧ cap ≤ maxLen ∧ cur.size = cap * es ∧ (∀ x ∈ xs, x.length = es) ∧
      ∀ (j : Nat) (d : D) (u : Value), xs.flatten[j]? = some d → cur.toList[j]? = some u → u.oneCell' = true ∧ Rep w (both F H) d u := by
  obtain ⟨vals, hown, hxe, hj⟩ := row_ok hh hm
  rcases hown.2 with ⟨hn, _⟩ | ⟨g', cap', cur, hv, _, hg, hle, hm2, hs, ht⟩
  · cases hn
  · injection hv with h1 h2 h3
    injection h1 with h1
    injection h1 with h1
    subst h1; subst h2; subst h3
    refine ⟨cur, hg, rfl, hle, hm2, hs, hxe, fun j d u hd hu => hj j d u hd ?_⟩
    have hlt : j < xs.length * es := by rw [← flatten_len xs hxe]; exact (List.getElem?_eq_some_iff.1 hd).1
    rw [← ht, List.getElem?_take_of_lt hlt]; exact hu
theorem Sat.writeRow {a : Act} {w : World} (hs : Sat K env H a w) {g n cap e es p n' : Nat} {xs ys : List (List D)} {news : List Value} (hes : 0 < es)
    (hu : UpdR (.row (RowV g n cap) e es xs) (.row (RowV g n' cap) e es (xs.take p ++ ys ++ xs.drop (p + ys.length))) H H') (hn' : n' = (xs.take p ++ ys ++ xs.drop (p + ys.length)).length)
    (hp : p ≤ xs.length) (hc : p + ys.length ≤ cap) (hye : ∀ y ∈ ys, y.length = es) (hl : news.length = ys.length * es) (h1 : ∀ u ∈ news, u.oneCell' = true)
    (hr : ∀ (j : Nat) (d : D) (u : Value), ys.flatten[j]? = some d → news[j]? = some u → Rep w (both K.F H) d u) :
    ∃ w', (storeCells ⟨g, p * es, none⟩ news 0).run K.P w = .ok () w' ∧ Sat K env H' a w' := by
  obtain ⟨cur, hg, hn, hle, hm, hsz, hxe, hj⟩ := row_cur hs.heap hu.mem
  have hfit : p * es + news.length ≤ cur.size := by rw [hl, hsz, ← Nat.add_mul]; exact Nat.mul_le_mul_right _ hc
  have hst := run_storeCells_at K.P g (p * es) e news 0 cur w hg (by simpa using hfit) h1
  simp only [Nat.add_zero] at hst
  refine ⟨_, hst, ?_⟩
  have k := Kept.setRow w g (cur.toList.take (p * es) ++ news ++ cur.toList.drop (p * es + news.length)).toArray
  have hbb : ∀ g', (Blk.row (RowV g n' cap) e es (xs.take p ++ ys ++ xs.drop (p + ys.length))).blk = some g' → (Blk.row (RowV g n cap) e es xs).blk = some g' ∨ w.heap.size ≤ g' := fun g' hg' => .inl hg'
  have hrep : ∀ {d u}, Rep w (both K.F H) d u → Rep _ (both K.F H') d u := fun hr => hs.rep_upd hu hbb k hr
  have hxl : xs.flatten.length = xs.length * es := flatten_len xs hxe
  have hyl : ys.flatten.length = ys.length * es := flatten_len ys hye
  have hall : ∀ x ∈ xs.take p ++ ys ++ xs.drop (p + ys.length), x.length = es := fun x hx => by
    rcases List.mem_append.1 hx with hx | hx
    · rcases List.mem_append.1 hx with hx | hx
      · exact hxe x (List.mem_of_mem_take hx)
      · exact hye x hx
    · exact hxe x (List.mem_of_mem_drop hx)
  have hnc : n' ≤ cap := by rw [hn']; simp only [List.length_append, List.length_take, List.length_drop]; omega
  have hcl : (cur.toList.take (p * es) ++ news ++ cur.toList.drop (p * es + news.length)).length = cap * es := by
    simp only [List.length_append, List.length_take, List.length_drop, Array.length_toList]; omega
  refine Sat.upd (b := .row (RowV g n cap) e es xs) (b' := .row (RowV g n' cap) e es _) hs hu hbb k ⟨(cur.toList.take (p * es) ++ news ++ cur.toList.drop (p * es + news.length)).take (n' * es), ⟨?_, .inr ⟨g, cap, _, by rw [hn'], Nat.zero_le _, setRow_heap w g cur _ e _ hg, ?_, hm, ?_, ?_⟩⟩, hall, fun j d u hd hu' => ?_⟩
  · rw [List.length_take, hcl, ← hn']
    exact Nat.min_eq_left (Nat.mul_le_mul_right _ hnc)
  · rw [← hn']; exact hnc
  · simpa using hcl
  · rw [← hn']
  · have hjlt : j < n' * es := by rw [hn', ← flatten_len _ hall]; exact (List.getElem?_eq_some_iff.1 hd).1
    rw [List.getElem?_take_of_lt hjlt] at hu'
    rw [List.flatten_append, List.flatten_append, flatten_take xs p hxe, flatten_drop xs _ hxe] at hd
    have hpl : p * es ≤ xs.flatten.length := by rw [hxl]; exact Nat.mul_le_mul_right _ hp
    have hpc : p * es ≤ cur.toList.length := by rw [Array.length_toList]; omega
    have e1 : (xs.flatten.take (p * es)).length = p * es := by rw [List.length_take]; omega
    have e2 : (cur.toList.take (p * es)).length = p * es := by rw [List.length_take]; omega
    by_cases c1 : j < p * es
    · rw [List.append_assoc, List.getElem?_append_left (by rw [e1]; exact c1), List.getElem?_take_of_lt c1] at hd
      rw [List.append_assoc, List.getElem?_append_left (by rw [e2]; exact c1), List.getElem?_take_of_lt c1] at hu'
      obtain ⟨q1, q2⟩ := hj j d u hd hu'
      exact ⟨q1, hrep q2⟩
    · by_cases c2 : j < p * es + ys.length * es
      · rw [List.append_assoc, List.getElem?_append_right (by rw [e1]; omega), e1, List.getElem?_append_left (by rw [hyl]; omega)] at hd
        rw [List.append_assoc, List.getElem?_append_right (by rw [e2]; omega), e2, List.getElem?_append_left (by rw [hl]; omega)] at hu'
        exact ⟨h1 u (List.mem_of_getElem? hu'), hrep (hr _ d u hd hu')⟩
      · rw [List.getElem?_append_right (by rw [List.length_append, e1, hyl]; omega), List.length_append, e1, hyl, List.getElem?_drop] at hd
        rw [List.getElem?_append_right (by rw [List.length_append, e2, hl]; omega), List.length_append, e2, hl, List.getElem?_drop] at hu'
        have e3 : (p + ys.length) * es + (j - (p * es + ys.length * es)) = j := by rw [Nat.add_mul]; omega
        have e4 : p * es + ys.length * es + (j - (p * es + ys.length * es)) = j := by omega
        rw [e3] at hd
        rw [e4] at hu'
        obtain ⟨q1, q2⟩ := hj j d u hd hu'
        exact ⟨q1, hrep q2⟩
inductive SrcR (env : Env) (H : Hp) (es : Nat) : Operand → Nat → Nat → List (List D) → Prop where
  | data {y : Operand} {ys : List (List D)} : opD env y = some (.sl es ys) → SrcR env H es y ys.length ys.length ys
  | part {y : Operand} {g o b m c n cap e k : Nat} {xs : List (List D)} : opD env y = some (.v (.slice (some ⟨g, o, none⟩) m c)) → Blk.row (RowV g n cap) e es xs ∈ H → o = b * es → b + k ≤ xs.length → k ≤ m → SrcR env H es y m k ((xs.drop b).take k)
theorem SrcR.cells_part {a : Act} {w : World} (hs : Sat K env H a w) {es : Nat} (hes : 0 < es) {y : Operand} {g o b m c n cap e k : Nat} {xs : List (List D)} (hy : opD env y = some (.v (.slice (some ⟨g, o, none⟩) m c))) (hm : Blk.row (RowV g n cap) e es xs ∈ H) (ho : o = b * es) (hb : b + k ≤ xs.length) (hk : k ≤ m) :
    ∃ ad c0, ∃ news : List Value, a.eval y = .slice ad m c0 ∧ (Builtin.firstCells es k (.slice ad m c0)).run K.P w = .ok news.toArray w ∧ news.length = k * es ∧ ((xs.drop b).take k).length = k ∧ (∀ x ∈ ((xs.drop b).take k), x.length = es) ∧ (∀ u ∈ news, u.oneCell' = true) ∧
      ∀ (j : Nat) (d : D) (u : Value), ((xs.drop b).take k).flatten[j]? = some d → news[j]? = some u → Rep w (both K.F H) d u := by
  obtain ⟨cur, hg, hn, hle, hm2, hsz, hxe, hj⟩ := row_cur hs.heap hm
  have hxl : xs.flatten.length = xs.length * es := flatten_len xs hxe
  have hsrc : ∀ x ∈ (xs.drop b).take k, x.length = es := fun x hx => hxe x (List.mem_of_mem_drop (List.mem_of_mem_take hx))
  have hlen : ((xs.drop b).take k).length = k := by rw [List.length_take, List.length_drop]; omega
  have hsub : o + k * es ≤ cur.toList.length := by
    rw [ho, Array.length_toList, hsz, ← Nat.add_mul]
    exact Nat.mul_le_mul_right _ (by omega)
  have hflat : ((xs.drop b).take k).flatten = (xs.flatten.drop o).take (k * es) := by
    rw [flatten_take _ _ (fun x hx => hxe x (List.mem_of_mem_drop hx)), flatten_drop xs b hxe, ho]
  have hnl : ((cur.toList.drop o).take (k * es)).length = k * es := by rw [List.length_take, List.length_drop]; omega
  have hget : ∀ (j : Nat) (u : Value), ((cur.toList.drop o).take (k * es))[j]? = some u → j < k * es ∧ cur.toList[o + j]? = some u := fun j u hu => by
    have hjl : j < k * es := by rw [← hnl]; exact (List.getElem?_eq_some_iff.1 hu).1
    rw [List.getElem?_take_of_lt hjl, List.getElem?_drop] at hu
    exact ⟨hjl, hu⟩
  have hrep : ∀ (j : Nat) (u : Value), ((cur.toList.drop o).take (k * es))[j]? = some u → ∃ d, xs.flatten[o + j]? = some d ∧ u.oneCell' = true ∧ Rep w (both K.F H) d u := fun j u hu => by
    obtain ⟨hjl, hcu⟩ := hget j u hu
    have hlt : o + j < xs.flatten.length := by
      rw [hxl]
      have : (b + k) * es ≤ xs.length * es := Nat.mul_le_mul_right _ hb
      rw [Nat.add_mul] at this
      omega
    obtain ⟨q1, q2⟩ := hj (o + j) _ u (List.getElem?_eq_getElem hlt) hcu
    exact ⟨_, List.getElem?_eq_getElem hlt, q1, q2⟩
  refine ⟨some ⟨g, o, none⟩, c, (cur.toList.drop o).take (k * es), Rep.of_v (hs.eval hy), run_firstCells_some w es k _ m c _ hnl (fun j v hv => ?_), hnl, hlen, hsrc, fun u hu => ?_, fun j d u hd hu => ?_⟩
  · obtain ⟨_, hcu⟩ := hget j v hv
    rw [own_add, cell_of_row w g (o + j) cur e (0, 0) hg]
    simpa using hcu
  · obtain ⟨j, hju⟩ := List.mem_iff_getElem?.1 hu
    exact (hrep j u hju).choose_spec.2.1
  · obtain ⟨d', hd', _, q⟩ := hrep j u hu
    rw [hflat] at hd
    have hjl := (hget j u hu).1
    rw [List.getElem?_take_of_lt hjl, List.getElem?_drop, hd'] at hd
    cases hd
    exact q
theorem SrcR.cells {a : Act} {w : World} (hs : Sat K env H a w) {es : Nat} (hes : 0 < es) {y : Operand} {m k : Nat} {src : List (List D)} (h : SrcR env H es y m k src) :
    ∃ ad c, ∃ news : List Value, a.eval y = .slice ad m c ∧ (Builtin.firstCells es k (.slice ad m c)).run K.P w = .ok news.toArray w ∧ news.length = k * es ∧ src.length = k ∧ (∀ x ∈ src, x.length = es) ∧ (∀ u ∈ news, u.oneCell' = true) ∧
      ∀ (j : Nat) (d : D) (u : Value), src.flatten[j]? = some d → news[j]? = some u → Rep w (both K.F H) d u := by
  cases h with
  | data hy =>
    rcases (hs.eval hy).sl_row hes with ⟨e2, rfl⟩ | ⟨ad, c, news, e2, hnl, hye, hnc, hno, hnr⟩
    · exact ⟨none, 0, [], e2, by simp [Builtin.firstCells], by simp, rfl, by simp, by simp, fun j d u hd => by simp at hd⟩
    · exact ⟨some ad, c, news, e2, run_firstCells_some w es _ ad _ c news hnl hnc, hnl, rfl, hye, hno, fun j d u hd hu => (hnr j d u hd hu).2⟩
  | part hy hm ho hb hk => exact SrcR.cells_part hs hes hy hm ho hb hk
theorem TL.copyRow {tt e es bytes g o p dl dc n cap n' m k : Nat} {x y : Operand} {xs src : List (List D)} (ht : AppT K.P tt e es bytes) (hx : opD env x = some (.v (.slice (some ⟨g, o, none⟩) dl dc))) (ho : o = p * es)
    (hsrc : SrcR env H es y m k src) (hk : k = Nat.min m dl) (hu : UpdR (.row (RowV g n cap) e es xs) (.row (RowV g n' cap) e es (xs.take p ++ src ++ xs.drop (p + src.length))) H H') (hn' : n' = (xs.take p ++ src ++ xs.drop (p + src.length)).length)
    (hp : p ≤ xs.length) (hc : p + src.length ≤ cap) (hd : Nat.blt t K.n = true) (h : TL K ops rest Q (env.put t (some (.v (.int .i64 k)))) H') :
    TL K ops (⟨some t, .call { callee := .builtin .copy, args := #[x, y], argTypes := #[tt, tt] }, ty, pos, af, none⟩ :: rest) Q env H := fun a w hs => by
  unfold wpListIn
  rw [if_pos (by rfl)]
  have e1 := Rep.of_v (hs.eval hx)
  obtain ⟨ad, c, news, e2, hf, hnl, hsl, hse, hno, hr⟩ := hsrc.cells hs ht.pos
  obtain ⟨w', hst, hs'⟩ := hs.writeRow ht.pos hu hn' hp hc hse (by rw [hnl, hsl]) hno hr
  rw [← ho] at hst
  have erun : (execOp a.eval ⟨some t, .call { callee := .builtin .copy, args := #[x, y], argTypes := #[tt, tt] }, ty, pos, af, none⟩).run K.P w = .ok (.value (.int .i64 k)) w' := by
    rw [hk] at hf
    simp [execOp, resolve, invoke, builtin, e1, e2, Builtin.copy_, run_underlying ht.under, ht.size, Builtin.lenOf, hf, hst, goInt, hk]
  refine wpIn_ok (fun _ h => by cases h) erun ?_
  exact h _ _ (hs'.dst (by simpa [Nat.blt_eq] using hd) (.v _))
theorem TL.appendIn {tt e es bytes g p n cap n' m : Nat} {x y : Operand} {xs src : List (List D)} (ht : AppT K.P tt e es bytes) (hx : opD env x = some (.v (RowV g p cap)))
    (hsrc : SrcR env H es y m m src) (hu : UpdR (.row (RowV g n cap) e es xs) (.row (RowV g n' cap) e es (xs.take p ++ src ++ xs.drop (p + src.length))) H H') (hn' : n' = (xs.take p ++ src ++ xs.drop (p + src.length)).length)
    (hp : p ≤ xs.length) (hc : p + m ≤ cap) (hd : Nat.blt t K.n = true) (h : TL K ops rest Q (env.put t (some (.v (RowV g (p + m) cap)))) H') :
    TL K ops (⟨some t, .call { callee := .builtin .append, args := #[x, y], argTypes := #[tt, tt] }, ty, pos, af, none⟩ :: rest) Q env H := fun a w hs => by
  unfold wpListIn
  rw [if_pos (by rfl)]
  have e1 := Rep.of_v (hs.eval hx)
  obtain ⟨ad, c, news, e2, hf, hnl, hsl, hse, hno, hr⟩ := hsrc.cells hs ht.pos
  obtain ⟨w', hst, hs'⟩ := hs.writeRow ht.pos hu hn' hp (by rw [hsl]; exact hc) hse (by rw [hnl, hsl]) hno hr
  obtain ⟨i, z, hi, hz, hsz, hby, hzs⟩ := ht.info
  have ha : (⟨g, 0, none⟩ : Addr).add (p * es) = ⟨g, p * es, none⟩ := by rw [own_add, Nat.zero_add]
  have hsz' : ∀ w, (sizeOf e).run K.P w = .ok es w := ht.size
  have erun : (execOp a.eval ⟨some t, .call { callee := .builtin .append, args := #[x, y], argTypes := #[tt, tt] }, ty, pos, af, none⟩).run K.P w = .ok (.value (RowV g (p + m) cap)) w' := by
    simp [execOp, resolve, invoke, builtin, e1, e2, Builtin.append_, run_underlying ht.under, hsz', Builtin.lenOf, hc, hf, ha, hst]
  refine wpIn_ok (fun _ h => by cases h) erun ?_
  exact h _ _ (hs'.dst (by simpa [Nat.blt_eq] using hd) (.v _))
theorem zero_cells (z : Value) (zs : List Value) (hz : z.cells = zs.toArray) (hne : 0 < zs.length) (n : Nat) : (Builtin.zeroCells z.cells n).toList = (List.replicate n zs).flatten := by
  have hall : ∀ y ∈ List.replicate n zs, y.length = zs.length := fun y hy => by rw [List.eq_of_mem_replicate hy]
  refine List.ext_getElem? fun j => ?_
  rw [flatten_get hne _ hall]
  unfold Builtin.zeroCells
  rw [hz]
  simp only [List.size_toArray, Array.toList_map, Array.toList_range, List.getElem?_map]
  by_cases hj : j < n * zs.length
  · have h1 : j / zs.length < n := Nat.div_lt_of_lt_mul (by rw [Nat.mul_comm]; exact hj)
    have h2 : j % zs.length < zs.length := Nat.mod_lt _ hne
    rw [List.getElem?_range hj, List.getElem?_replicate, if_pos h1]
    simp [List.getElem?_eq_getElem h2, h2]
  · have h1 : ¬ j / zs.length < n := by
      intro h
      have := (Nat.div_lt_iff_lt_mul hne).1 h
      omega
    rw [List.getElem?_eq_none (by simpa using hj), List.getElem?_replicate, if_neg h1]
    rfl
theorem TL.clearRow {tt e es bytes g o p m c n cap n' : Nat} {x : Operand} {zs : List Value} {xs : List (List D)} (ht : AppT K.P tt e es bytes) (hz : ZeroT K.P e zs) (hzl : Nat.beq zs.length es = true) (hx : opD env x = some (.v (.slice (some ⟨g, o, none⟩) m c))) (ho : o = p * es) (hm : 0 < m)
    (hu : UpdR (.row (RowV g n cap) e es xs) (.row (RowV g n' cap) e es (xs.take p ++ List.replicate m (zs.map .v) ++ xs.drop (p + (List.replicate m (zs.map D.v)).length))) H H') (hn' : n' = (xs.take p ++ List.replicate m (zs.map D.v) ++ xs.drop (p + (List.replicate m (zs.map D.v)).length)).length)
    (hp : p ≤ xs.length) (hc : p + m ≤ cap) (h : TL K ops rest Q env H') :
    TL K ops (⟨none, .call { callee := .builtin .clear, args := #[x], argTypes := #[tt] }, ty, pos, af, none⟩ :: rest) Q env H := fun a w hs => by
  unfold wpListIn
  rw [if_pos (by rfl)]
  have e1 := Rep.of_v (hs.eval hx)
  have hzl' := Nat.eq_of_beq_eq_true hzl
  obtain ⟨z, hzr, hzc⟩ := hz.zero
  have hzc' := zero_cells z zs hzc (by rw [hzl']; exact ht.pos) m
  have hone := hz.one
  rw [List.all_eq_true] at hone
  have hall : ∀ y ∈ List.replicate m (zs.map D.v), y.length = es := fun y hy => by rw [List.eq_of_mem_replicate hy, List.length_map, hzl']
  have hflat : (List.replicate m (zs.map D.v)).flatten = (List.replicate m zs).flatten.map D.v := by
    rw [List.map_flatten, List.map_replicate]
  have hlen : (List.replicate m zs).flatten.length = (List.replicate m (zs.map D.v)).length * es := by
    rw [flatten_len (es := es) _ (fun y hy => by rw [List.eq_of_mem_replicate hy, hzl'])]
    simp
  obtain ⟨w', hst, hs'⟩ := hs.writeRow (news := (List.replicate m zs).flatten) ht.pos hu hn' hp (by simpa using hc) hall hlen (fun u hu => by
      obtain ⟨l, hl, hul⟩ := List.mem_flatten.1 hu
      rw [List.eq_of_mem_replicate hl] at hul
      exact hone u hul) (fun j d u hd hu => by
      rw [hflat, List.getElem?_map, hu] at hd
      cases hd
      exact .v _)
  rw [← ho] at hst
  obtain ⟨m', rfl⟩ : ∃ m', m = m' + 1 := ⟨m - 1, by omega⟩
  have erun : (execOp a.eval ⟨none, .call { callee := .builtin .clear, args := #[x], argTypes := #[tt] }, ty, pos, af, none⟩).run K.P w = .ok (.value (.tuple #[])) w' := by
    simp [execOp, resolve, invoke, builtin, e1, Builtin.clear_, run_underlying ht.under, hzr, hzc', hst]
  refine wpIn_ok (fun _ h => by cases h) erun ?_
  exact h _ _ (hs'.put (dst := none) (od := none) (v := .tuple #[]) (Kept.refl _ _) (fun _ h => by cases h) (fun _ h => by cases h))
theorem TL.appendZeros {tt te e es bytes g p n cap zc : Nat} {ik : IntKind} {x y : Operand} {zs : List Value} {xs : List (List D)} (ht : AppT K.P tt e es bytes) (hti : K.P.underlying te = some (.int ik)) (hz : ZeroT K.P e zs) (hzl : Nat.beq zs.length es = true)
    (hx : opD env x = some (.v (RowV g p cap))) (hy : opD env y = some (.v (.int .i64 (zc : Int)))) (hm : Blk.row (RowV g n cap) e es xs ∈ H) (hp : p ≤ xs.length) (hroom : cap < p + zc) (hb : (p + zc) * bytes ≤ 140737488355328) (hs63 : p + zc ≤ 4611686018427387904) (hd : Nat.blt t K.n = true)
    (h : ∀ g2 cap2, p + zc ≤ cap2 → TL K ops rest Q (env.put t (some (.v (RowV g2 (p + zc) cap2)))) (.row (RowV g2 (p + zc) cap2) e es (xs.take p ++ List.replicate zc (zs.map .v)) :: H)) :
    TL K ops (⟨some t, .call { callee := .builtin .append, args := #[x, y], argTypes := #[tt, te] }, ty, pos, af, none⟩ :: rest) Q env H := fun a w hs => by
  unfold wpListIn
  rw [if_pos (by rfl)]
  have e1 := Rep.of_v (hs.eval hx)
  have e2 := Rep.of_v (hs.eval hy)
  obtain ⟨i, z0, hi, hz0, hsz, hby, hzs⟩ := ht.info
  obtain ⟨cur, hg, hn, hle, hm2, hcs, hxe, hj⟩ := row_cur hs.heap hm
  have hzl' := Nat.eq_of_beq_eq_true hzl
  obtain ⟨z, hzr, hzc⟩ := hz.zero
  have hzz : z = z0 := by
    have h1 := hzr w
    simp [zeroValue, typeInfo, hi, hz0] at h1
    exact h1.symm
  subst hzz
  have hzc1 := zero_cells z zs hzc (by rw [hzl']; exact ht.pos)
  have hone := hz.one
  rw [List.all_eq_true] at hone
  have hl0 : ¬ ((zc : Int) < 0) := by omega
  have hwrap : IntKind.i64.wrap (zc : Int) = zc := IntWalk.i64_in _ (by constructor <;> omega)
  have hzb : zc * bytes ≤ 281474976710656 := by
    have : zc * bytes ≤ (p + zc) * bytes := Nat.mul_le_mul_right _ (by omega)
    omega
  have h48 : ¬ (281474976710656 < (zc : Int) * (bytes : Int)) := by
    have : ((zc * bytes : Nat) : Int) = (zc : Int) * (bytes : Int) := Int.natCast_mul _ _
    omega
  have hfit := growslice_fits (need := p + zc) (old := cap) (bytes := bytes) hroom hb
  have h48' : ¬ (281474976710656 < Builtin.nextslicecap (p + zc) cap * bytes) := by omega
  have h63' : ¬ (9223372036854775807 < ((p : Int) + (zc : Int))) := by omega
  have hroom' : ¬ (p + zc ≤ cap) := by omega
  have hpc : p * es ≤ cur.toList.length := by rw [Array.length_toList, hcs]; exact Nat.mul_le_mul_right _ (by omega)
  have hold : (Builtin.firstCells es p (.slice (some ⟨g, 0, none⟩) p cap)).run K.P w.drew = .ok (cur.toList.take (p * es)).toArray w.drew :=
    run_firstCells_some w.drew es p _ p cap _ (by rw [List.length_take]; omega) (fun j v hv => by
      have hjl : j < p * es := by
        have := (List.getElem?_eq_some_iff.1 hv).1
        rw [List.length_take] at this; omega
      rw [List.getElem?_take_of_lt hjl] at hv
      rw [own_add, Nat.zero_add]
      have := cell_of_row w g j cur e (0, 0) hg
      show w.drew.cell? _ = _
      rw [show w.drew.cell? ⟨g, j, none⟩ = w.cell? ⟨g, j, none⟩ from rfl, this]
      simpa using hv)
  have hzn : (Builtin.zeroCells z.cells zc).toList = (List.replicate zc zs).flatten := hzc1 zc
  obtain ⟨c2, hc2⟩ : ∃ c2, c2 = grownCap w (p + zc) cap e := ⟨_, rfl⟩
  have hge : p + zc ≤ c2 := by rw [hc2]; exact grownCap_ge w _ _ e
  have hcm : c2 ≤ maxLen := by rw [hc2]; exact grownCap_le_maxLen w _ _ e (by simp only [maxLen]; omega)
  obtain ⟨newcur, hnc⟩ : ∃ nc : Array Value, nc = (cur.toList.take (p * es)).toArray ++ Builtin.zeroCells z.cells zc ++ Builtin.zeroCells z.cells (c2 - (p + zc)) := ⟨_, rfl⟩
  have erun : (execOp a.eval ⟨some t, .call { callee := .builtin .append, args := #[x, y], argTypes := #[tt, te] }, ty, pos, af, none⟩).run K.P w = .ok (.value (RowV w.heap.size (p + zc) c2)) (w.drew.alloc (.cells newcur e)) := by
    subst hsz; subst hby
    by_cases hzero : zc * i.size = 0
    · exfalso
      have : 0 < zc * i.size := Nat.mul_pos (by omega) ht.pos
      omega
    · simp [execOp, resolve, invoke, builtin, e1, e2, Builtin.append_, run_underlying ht.under, run_underlying hti, sizeOf, typeInfo, zeroValue, hi, hz0, Builtin.lenOf, asInt, asIntOf, hwrap, hl0, h48, hroom', h63', h48', Question.forced, hold, hzero, newRow, grownCap, hc2, hnc]
  refine wpIn_ok (fun _ h => by cases h) erun ?_
  have hk : Kept no w (w.drew.alloc (.cells newcur e)) := (Kept.drew no w).trans (Kept.alloc no _ _)
  have hb : ∀ g', (Blk.row (RowV w.heap.size (p + zc) c2) e es (xs.take p ++ List.replicate zc (zs.map .v))).blk = some g' → w.heap.size ≤ g' := fun g' hg' => by
    simp only [Blk.blk, Value.ownBlock, Option.some.injEq] at hg'; omega
  have hall : ∀ y ∈ xs.take p ++ List.replicate zc (zs.map D.v), y.length = es := fun y hy => by
    rcases List.mem_append.1 hy with hy | hy
    · exact hxe y (List.mem_of_mem_take hy)
    · rw [List.eq_of_mem_replicate hy, List.length_map, hzl']
  have hlen : (xs.take p ++ List.replicate zc (zs.map D.v)).length = p + zc := by simp; omega
  have hzcl : ∀ q, (Builtin.zeroCells z.cells q).size = q * es := fun q => by
    rw [← Array.length_toList, hzc1 q, flatten_len (es := es) _ (fun y hy => by rw [List.eq_of_mem_replicate hy, hzl'])]; simp
  have hncl : newcur.toList = cur.toList.take (p * es) ++ (List.replicate zc zs).flatten ++ (List.replicate (c2 - (p + zc)) zs).flatten := by
    rw [hnc, Array.toList_append, Array.toList_append, hzn, hzc1]
  have hncs : newcur.size = c2 * es := by
    rw [hnc, Array.size_append, Array.size_append, hzcl, hzcl, List.size_toArray, List.length_take, Nat.min_eq_left hpc, ← Nat.add_mul, ← Nat.add_mul]
    congr 1; omega
  refine h w.heap.size c2 hge _ _ (Sat.dst (hs.push (b := .row (RowV w.heap.size (p + zc) c2) e es (xs.take p ++ List.replicate zc (zs.map .v))) hk hb ⟨newcur.toList.take ((p + zc) * es), ⟨?_, .inr ⟨w.heap.size, c2, newcur, by rw [hlen], Nat.zero_le _, heap_alloc_new w.drew _, by rw [hlen]; exact hge, hcm, hncs, by rw [hlen]⟩⟩, hall, fun j d u hd hu => ?_⟩) (by simpa [Nat.blt_eq] using hd) (.v _))
  · rw [List.length_take, Array.length_toList, hncs, hlen]
    exact Nat.min_eq_left (Nat.mul_le_mul_right _ hge)
  · have hjl : j < (p + zc) * es := by rw [← hlen, ← flatten_len _ hall]; exact (List.getElem?_eq_some_iff.1 hd).1
    rw [List.getElem?_take_of_lt hjl, hncl] at hu
    rw [List.flatten_append, flatten_take xs p hxe] at hd
    have hxl : xs.flatten.length = xs.length * es := flatten_len xs hxe
    have e3 : (xs.flatten.take (p * es)).length = p * es := by
      rw [List.length_take, hxl]; exact Nat.min_eq_left (Nat.mul_le_mul_right _ hp)
    have e4 : (cur.toList.take (p * es)).length = p * es := by rw [List.length_take]; omega
    by_cases c1 : j < p * es
    · rw [List.getElem?_append_left (by rw [e3]; exact c1), List.getElem?_take_of_lt c1] at hd
      rw [List.append_assoc, List.getElem?_append_left (by rw [e4]; exact c1), List.getElem?_take_of_lt c1] at hu
      obtain ⟨q1, q2⟩ := hj j d u hd hu
      exact ⟨q1, hs.rep_push hk hb q2⟩
    · have hflat : (List.replicate zc (zs.map D.v)).flatten = (List.replicate zc zs).flatten.map D.v := by rw [List.map_flatten, List.map_replicate]
      have hzl3 : (List.replicate zc zs).flatten.length = zc * es := by
        rw [flatten_len (es := es) _ (fun y hy => by rw [List.eq_of_mem_replicate hy, hzl'])]; simp
      rw [List.getElem?_append_right (by rw [e3]; omega), e3, hflat, List.getElem?_map] at hd
      rw [List.append_assoc, List.getElem?_append_right (by rw [e4]; omega), e4, List.getElem?_append_left (by rw [hzl3]; rw [Nat.add_mul] at hjl; omega)] at hu
      rw [hu] at hd
      cases hd
      refine ⟨?_, .v _⟩
      obtain ⟨l, hl, hul⟩ := List.mem_flatten.1 (List.mem_of_getElem? hu)
      rw [List.eq_of_mem_replicate hl] at hul
      exact hone u hul
end
section
variable {P : Program} {H : Hp} {env : Env} {dst : Option Tmp} {ty : TypeId} {pos : String} {af : Array Edge} {gd : Option (Nat × Bool)}
theorem pure_sliceV {x : Operand} {t e es g o n c : Nat} {lo hi mx : Option Operand} {l h m : Nat} (ht : SliceT P t e es) (hx : opD env x = some (.v (.slice (some ⟨g, o, none⟩) n c)))
    (hlo : match lo with | none => l = 0 | some y => opD env y = some (.v (.int .i64 (l : Int)))) (hhi : match hi with | none => h = n ∧ mx = none | some y => opD env y = some (.v (.int .i64 (h : Int))))
    (hmx : match mx with | none => m = c | some y => opD env y = some (.v (.int .i64 (m : Int)))) (h1 : l ≤ h) (h2 : h ≤ m) (h3 : m ≤ c) :
    Pure P H ⟨dst, .slice t x lo hi mx, ty, pos, af, gd⟩ env (.v (.slice (some ⟨g, if m = l then o else o + l * es, none⟩) (h - l) (m - l))) := pure_of fun w F ρ hh hr => by
  have e1 := Rep.of_v (hr x (by simp [Op.operands]) _ hx)
  have el : ∀ y, lo = some y → ρ y = .int .i64 (l : Int) := fun y hy => by subst hy; exact Rep.of_v (hr y (by simp [Op.operands]) _ hlo)
  have eh : ∀ y, hi = some y → ρ y = .int .i64 (h : Int) := fun y hy => by subst hy; exact Rep.of_v (hr y (by simp [Op.operands]) _ hhi)
  have em : ∀ y, mx = some y → ρ y = .int .i64 (m : Int) := fun y hy => by subst hy; exact Rep.of_v (hr y (by simp [Op.operands]) _ hmx)
  have k1 : (l : Int) ≤ (h : Int) := by omega
  have k2 : (h : Int) ≤ (m : Int) := by omega
  have k3 : (m : Int) ≤ (c : Int) := by omega
  have k4 : (h : Int) ≤ (c : Int) := by omega
  have k5 : (0 : Int) ≤ (l : Int) := by omega
  have k6 : (0 : Int) ≤ (h : Int) := by omega
  have k7 : (0 : Int) ≤ (m : Int) := by omega
  have k8 : h ≤ c := by omega
  refine ⟨_, ?_, .v _⟩
  have ha : (⟨g, o, none⟩ : Addr).add (l * es) = ⟨g, o + l * es, none⟩ := own_add g o _
  have hif : (if m = l then (some ⟨g, o, none⟩ : Option Addr) else some ⟨g, o + l * es, none⟩) = some ⟨g, if m = l then o else o + l * es, none⟩ := by split <;> rfl
  cases mx with
  | none =>
    have hm0 : m = c := hmx
    subst hm0
    cases hi with
    | none =>
      obtain ⟨hn, _⟩ : h = n ∧ _ := hhi
      subst hn
      cases lo with
      | none =>
        have hl0 : l = 0 := hlo
        subst hl0
        simp [execOp, Instr.sliceAt, run_underlying ht.under, e1, Instr.slice, Instr.sliceBounds, ht.size, own_add] at hif ⊢
      | some yl => simp [execOp, Instr.sliceAt, run_underlying ht.under, e1, Instr.slice, Instr.sliceBounds, ht.size, el yl rfl, Instr.sliceBound, asIntOf, h1, ha, hif]
    | some yh =>
      cases lo with
      | none =>
        have hl0 : l = 0 := hlo
        subst hl0
        simp [execOp, Instr.sliceAt, run_underlying ht.under, e1, Instr.slice, Instr.sliceBounds, ht.size, eh yh rfl, Instr.sliceBound, asIntOf, h2, own_add] at hif ⊢
      | some yl => simp [execOp, Instr.sliceAt, run_underlying ht.under, e1, Instr.slice, Instr.sliceBounds, ht.size, el yl rfl, eh yh rfl, Instr.sliceBound, asIntOf, h1, h2, ha, hif]
  | some ym =>
    cases hi with
    | none => exact absurd (show (some ym : Option Operand) = none from hhi.2) (by simp)
    | some yh =>
      cases lo with
      | none =>
        have hl0 : l = 0 := hlo
        subst hl0
        simp [execOp, Instr.sliceAt, run_underlying ht.under, e1, Instr.slice, Instr.sliceBounds, ht.size, eh yh rfl, em ym rfl, Instr.sliceBound, asIntOf, h2, h3, own_add] at hif ⊢
      | some yl => simp [execOp, Instr.sliceAt, run_underlying ht.under, e1, Instr.slice, Instr.sliceBounds, ht.size, el yl rfl, eh yh rfl, em ym rfl, Instr.sliceBound, asIntOf, h1, h2, h3, ha, hif]
theorem pure_cap {x : Operand} {t e es n c : Nat} {a : Option Addr} (ht : SliceT P t e es) (hx : opD env x = some (.v (.slice a n c))) :
    Pure P H ⟨dst, .call { callee := .builtin .cap, args := #[x], argTypes := #[t] }, ty, pos, af, gd⟩ env (.v (.int .i64 c)) := pure_of fun w _ ρ hh h => by
  have e1 := Rep.of_v (h x (by simp [Op.operands, Call.operands]) _ hx)
  exact ⟨_, by simp [execOp, resolve, invoke, builtin, Builtin.cap_, run_underlying ht.under, e1, goInt], .v _⟩
theorem pure_lenV {x : Operand} {t e es n c : Nat} {a : Option Addr} (ht : SliceT P t e es) (hx : opD env x = some (.v (.slice a n c))) :
    Pure P H ⟨dst, .call { callee := .builtin .len, args := #[x], argTypes := #[t] }, ty, pos, af, gd⟩ env (.v (.int .i64 n)) := pure_of fun w _ ρ hh h => by
  have e1 := Rep.of_v (h x (by simp [Op.operands, Call.operands]) _ hx)
  exact ⟨_, by simp [execOp, resolve, invoke, builtin, Builtin.len_, run_underlying ht.under, e1, goInt], .v _⟩
end
section
variable {K : Ctx} {Q : Exit → Env → Hp → Prop} {env : Env} {H : Hp}
theorem Sat.shrink {a : Act} {w : World} {H' : Hp} {g n cap e es k : Nat} {xs : List (List D)} (h : Sat K env H a w) (hu : UpdR (.row (RowV g n cap) e es xs) (.row (RowV g k cap) e es (xs.take k)) H H') (hk : k ≤ xs.length) : Sat K env H' a w := by
  obtain ⟨cur, hg, hn, hle, hm, hsz, hxe, hj⟩ := row_cur h.heap hu.mem
  have hlen : (xs.take k).length = k := by rw [List.length_take]; omega
  refine h.upd hu (fun g' hg' => .inl hg') (Kept.refl _ _) ⟨cur.toList.take (k * es), ⟨?_, .inr ⟨g, cap, cur, by rw [hlen], Nat.zero_le _, hg, by rw [hlen]; omega, hm, hsz, by rw [hlen]⟩⟩, fun x hx => hxe x (List.mem_of_mem_take hx), fun j d u hd hu' => ?_⟩
  · rw [List.length_take, Array.length_toList, hsz, hlen]
    exact Nat.min_eq_left (Nat.mul_le_mul_right _ (by omega))
  · rw [flatten_take xs k hxe] at hd
    have hjl : j < k * es := by
      have := (List.getElem?_eq_some_iff.1 hd).1
      rw [List.length_take] at this; omega
    rw [List.getElem?_take_of_lt hjl] at hd hu'
    obtain ⟨q1, q2⟩ := hj j d u hd hu'
    refine ⟨q1, q2.fewer fun g hg => hg.imp id fun ho => ?_⟩
    rcases hu.own ho with h1 | h1
    · exact h1
    · exact ⟨_, hu.mem, h1⟩
theorem TC.shrink {c : Code} {H' : Hp} {g n cap e es k : Nat} {xs : List (List D)} (hu : UpdR (.row (RowV g n cap) e es xs) (.row (RowV g k cap) e es (xs.take k)) H H') (hk : k ≤ xs.length) (h : TC K c Q env H') : TC K c Q env H := TC.view (fun _ _ hs => hs.shrink hu hk) h
end
section
variable {K : Ctx} {Q : Exit → Env → Hp → Prop} {env : Env} {H H1 H2 : Hp} {ops : Array Oper} {rest : List Oper} {t : Nat} {ty : TypeId} {pos : String} {af : Array Edge}
theorem TL.eqlNil {T e es : Nat} {t2 : TypeId} {x y : Operand} {xs : List (List D)} (hu : K.P.underlying T = some (.slice e)) (hx : opD env x = some (.sl es xs)) (hy : opD env y = some (.v (.slice none 0 0))) (hd : Nat.blt t K.n = true)
    (h : ∀ b : Bool, (b = true → xs = []) → TL K ops rest Q (env.put t (some (.v (.bool b)))) H) : TL K ops (⟨some t, .binOp .eql T x y t2, ty, pos, af, none⟩ :: rest) Q env H := fun a w hs => by
  unfold wpListIn
  rw [if_pos (by rfl)]
  have e2 := Rep.of_v (hs.eval hy)
  have e1 := hs.eval hx
  have key : ∀ (ad : Option Addr) (n c : Nat), a.eval x = .slice ad n c → (execOp a.eval ⟨some t, .binOp .eql T x y t2, ty, pos, af, none⟩).run K.P w = .ok (.value (.bool ad.isNone)) w := fun ad n c he => by
    have hq : ∀ d : Nat, (Op.equalIn (d + 1) T (.slice ad n c) (.slice none 0 0)).run K.P w = .ok ad.isNone w := fun d => by
      unfold Op.equalIn
      cases ad <;> simp [run_underlying hu]
    have hg : (eqGuard .eql T x y (.slice ad n c) (.slice none 0 0)).run K.P w = .ok () w := by unfold eqGuard; rfl
    have e3 : binOp .eql T (.slice ad n c) (.slice none 0 0) = (do pure (.bool (← Op.equal T (.slice ad n c) (.slice none 0 0)))) := rfl
    simp only [execOp, he, e2, Sem.run_bind, hg, Result.andThen_ok, e3, Op.equal, Op.maxDepth, hq 9999]; rfl
  generalize hux : a.eval x = u at e1
  cases e1 with
  | nil es =>
    refine wpIn_ok (fun _ h => by cases h) (key _ _ _ hux) ?_
    exact h true (fun _ => rfl) _ _ (hs.dst (by simpa [Nat.blt_eq] using hd) (.v _))
  | sl _ _ ad c val =>
    refine wpIn_ok (fun _ h => by cases h) (key _ _ _ hux) ?_
    exact h false (fun h => by cases h) _ _ (hs.dst (by simpa [Nat.blt_eq] using hd) (.v _))
theorem row_shape? {w : World} {g : Nat} {cur : Array Value} {e : TypeId} (h : w.heap[g]? = some (.cells cur e (0, 0))) : w.shape? g = some (e, cur.size) := by simp [World.shape?, h]
theorem row_frozen? {w : World} {g o : Nat} {cur : Array Value} {e : TypeId} (h : w.heap[g]? = some (.cells cur e (0, 0))) : w.frozen? ⟨g, o, none⟩ = false := by simp [World.frozen?, h]
theorem TL.overlaps {f T e es g1 o1 la ca n1 cap1 g2 o2 lb cb n2 cap2 : Nat} {x y : Operand} {ts : Array TypeId} {xs ys : List (List D)} (ht : SliceT K.P T e es)
    (hc : ∀ (as0 : Array Value) (w : World) (v : Value), (Extern.SlicesOverlaps.overlaps #[T, T] #[4] as0).run K.P w = .ok v w → (callFunc f as0).run K.P w = .ok (.value v) w)
    (hx : opD env x = some (.v (.slice (some ⟨g1, o1, none⟩) la ca))) (hy : opD env y = some (.v (.slice (some ⟨g2, o2, none⟩) lb cb))) (hs2 : SplitR H H1 H2) (hm1 : Blk.row (RowV g1 n1 cap1) e es xs ∈ H1) (hm2 : Blk.row (RowV g2 n2 cap2) e es ys ∈ H2) (hes : 0 < es) (hcap : 0 < cap2)
    (hd : Nat.blt t K.n = true) (h : TL K ops rest Q (env.put t (some (.v (.bool false)))) H) :
    TL K ops (⟨some t, .call { callee := .value (.func f), args := #[x, y], argTypes := ts }, ty, pos, af, none⟩ :: rest) Q env H := fun a w hs => by
  unfold wpListIn
  rw [if_pos (by rfl)]
  have e1 := Rep.of_v (hs.eval hx)
  have e2 := Rep.of_v (hs.eval hy)
  obtain ⟨cur1, hg1, _⟩ := row_cur hs.heap (hs2.spec.1.subset hm1)
  obtain ⟨cur2, hg2, _, _, _, hsz2, _⟩ := row_cur hs.heap (hs2.spec.2.1.subset hm2)
  have hne : g1 ≠ g2 := fun he => hs2.apart hs.heap.apart _ hm1 _ hm2 g1 rfl (by rw [he]; rfl)
  have hk2 : cur2.size ≠ 0 := by
    rw [hsz2]
    have := Nat.mul_pos hcap hes
    omega
  have hov := hc #[.slice (some ⟨g1, o1, none⟩) la ca, .slice (some ⟨g2, o2, none⟩) lb cb] w _ (Lib.run_overlaps_apart w T 4 e ht.under es ht.size ⟨g1, o1, none⟩ ⟨g2, o2, none⟩ la ca lb cb hne e e cur1.size cur2.size (row_shape? hg1) (row_shape? hg2) hk2 (row_frozen? hg1) (row_frozen? hg1))
  have erun : (execOp a.eval ⟨some t, .call { callee := .value (.func f), args := #[x, y], argTypes := ts }, ty, pos, af, none⟩).run K.P w = .ok (.value (.bool false)) w := by
    have e0 : a.eval (.func f) = Value.func (.func f) #[] #[] := rfl
    simp [execOp, resolve, Deferred.ofValue, e0, invoke, e1, e2, hov]
  refine wpIn_ok (fun _ h => by cases h) erun ?_
  exact h _ _ (hs.dst (by simpa [Nat.blt_eq] using hd) (.v _))
end
theorem castI {x : Int} {n : Nat} (h : x = n) : some (D.v (.int .i64 x)) = some (D.v (.int .i64 (n : Int))) := by rw [h]
theorem pure_sliceNil {P : Program} {H : Hp} {env : Env} {dst : Option Tmp} {ty : TypeId} {pos : String} {af : Array Edge} {gd : Option (Nat × Bool)} {x y : Operand} {t e es : Nat} (ht : SliceT P t e es) (hx : opD env x = some (.v (.slice none 0 0))) (hy : opD env y = some (.v (.int .i64 0))) :
    Pure P H ⟨dst, .slice t x (some y) none none, ty, pos, af, gd⟩ env (.v (.slice none 0 0)) := pure_of fun w F ρ hh hr => by
  have e1 := Rep.of_v (hr x (by simp [Op.operands]) _ hx)
  have e2 := Rep.of_v (hr y (by simp [Op.operands]) _ hy)
  exact ⟨_, by simp [execOp, Instr.sliceAt, run_underlying ht.under, e1, Instr.slice, Instr.sliceBounds, ht.size, e2, Instr.sliceBound, asIntOf], .v _⟩
theorem retRow {P : Program} {env : Env} {H : Hp} {t e es : Nat} {v : Value} {xs ys : List (List D)} (hr : env t = some (.v v)) (hm : Blk.row v e es xs ∈ H) (h : xs = ys) :
    RetA P [ResultVar.tmp t].toArray (fun r H' => ∃ v, r = .v v ∧ H' = [.row v e es ys]) .ret env H := by
  subst h
  exact ⟨.inl rfl, [.v v], .tmp hr .nil, [.row v e es xs], List.singleton_sublist.2 hm, v, rfl, rfl⟩
end Go.Ob
