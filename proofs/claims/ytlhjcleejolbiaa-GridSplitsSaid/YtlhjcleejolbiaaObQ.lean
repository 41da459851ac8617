/- A region that draws its order, whose last operations are forced behind all others: the first part in the order of the text, only reading; then the last part, which may write. -/
import Derived.Test.YtlhjcleejolbiaaObP
set_option linter.unusedVariables false
set_option linter.unusedSimpArgs false
set_option linter.unusedSectionVars false
namespace Go.Ob
open Go.RowKit

/-- Operation j is bound behind operation i. -/
def bindsOn (md : Region.Mode) (ops : Array Oper) (j i : Nat) : Bool :=
  match ops[j]? with
  | none => false
  | some o => o.after.any fun e => Region.binds md e && Nat.beq e.on i
/-- All edges lead back; each of the first m operations is bound before a later one of them or before m; each behind m is bound behind its forerunner. -/
def tailB (md : Region.Mode) (ops : Array Oper) (m : Nat) : Bool :=
  Nat.blt m ops.size &&
  (List.range ops.size).all (fun j => match ops[j]? with | none => false | some o => o.after.all fun e => !Region.binds md e || Nat.blt e.on j) &&
  (List.range m).all (fun i => (List.range (m + 1)).any fun j => Nat.blt i j && bindsOn md ops j i) &&
  (List.range ops.size).all (fun j => !Nat.blt m j || bindsOn md ops j (j - 1))

structure TailP (md : Region.Mode) (ops : Array Oper) (m : Nat) : Prop where
  lt : m < ops.size
  back : ∀ (j : Nat) (o : Oper), ops[j]? = some o → ∀ e ∈ o.after, Region.binds md e = true → e.on < j
  cover : ∀ i, i < m → ∃ j, i < j ∧ j ≤ m ∧ ∃ o, ops[j]? = some o ∧ ∃ e ∈ o.after, Region.binds md e = true ∧ e.on = i
  chain : ∀ j, m < j → j < ops.size → ∃ o, ops[j]? = some o ∧ ∃ e ∈ o.after, Region.binds md e = true ∧ e.on = j - 1
theorem bindsOn_spec {md : Region.Mode} {ops : Array Oper} {j i : Nat} (h : bindsOn md ops j i = true) : ∃ o, ops[j]? = some o ∧ ∃ e ∈ o.after, Region.binds md e = true ∧ e.on = i := by
  unfold bindsOn at h
  split at h
  · cases h
  · rename_i o ho
    rw [Array.any_eq_true] at h
    obtain ⟨k, hk, h⟩ := h
    simp only [Bool.and_eq_true] at h
    exact ⟨o, ho, o.after[k], Array.getElem_mem hk, h.1, Nat.eq_of_beq_eq_true h.2⟩
theorem tailP {md : Region.Mode} {ops : Array Oper} {m : Nat} (h : tailB md ops m = true) : TailP md ops m := by
  simp only [tailB, Bool.and_eq_true] at h
  obtain ⟨⟨⟨h1, h2⟩, h3⟩, h4⟩ := h
  refine ⟨by simpa [Nat.blt_eq] using h1, fun j o ho e he hb => ?_, fun i hi => ?_, fun j hj hlt => ?_⟩
  · have hj : j < ops.size := (Array.getElem?_eq_some_iff.1 ho).1
    have := List.all_eq_true.1 h2 j (List.mem_range.2 hj)
    simp only [ho] at this
    rw [Array.all_eq_true_iff_forall_mem] at this
    have := this e he
    simpa [hb, Nat.blt_eq] using this
  · have := List.all_eq_true.1 h3 i (List.mem_range.2 hi)
    obtain ⟨j, hj, h⟩ := List.any_eq_true.1 this
    simp only [Bool.and_eq_true, Nat.blt_eq] at h
    exact ⟨j, h.1, by have := List.mem_range.1 hj; omega, bindsOn_spec h.2⟩
  · have := List.all_eq_true.1 h4 j (List.mem_range.2 hlt)
    simp only [Bool.or_eq_true, Bool.not_eq_true', Nat.blt_eq] at this
    rcases this with h | h
    · rw [show Nat.blt m j = true from by simpa [Nat.blt_eq] using hj] at h; cases h
    · exact bindsOn_spec h

/-- What is listed: L of the first m, then none. -/
def lst (L : Array Bool) (r : Nat) : Array Bool := L ++ Array.replicate r false
def Down (md : Region.Mode) (ops : Array Oper) (L : Array Bool) : Prop :=
  ∀ (j : Nat) (o : Oper), ops[j]? = some o → L.getD j false = true → ∀ e ∈ o.after, Region.binds md e = true → L.getD e.on false = true

section
variable {P : Program} {ops pre : Array Oper} {md : Region.Mode} {H : Hp} {n m : Nat}

theorem lst_get {L : Array Bool} {r i : Nat} (d : Bool) (hi : i < L.size) : (lst L r).getD i d = L.getD i d := by
  simp [lst, hi, Nat.lt_add_right]
theorem lst_get_tail {L : Array Bool} {r i : Nat} (hi : L.size ≤ i) : (lst L r).getD i false = false := by
  simp only [lst, Array.getD_eq_getD_getElem?]
  rw [Array.getElem?_append_right hi, Array.getElem?_replicate]
  split <;> rfl

/-- While one of the first part is left, no other is ready than of the first part. -/
theorem ready_pre (ht : TailP md ops m) {L : Array Bool} (hL : L.size = m) (hd : Down md ops L) {r : Nat} {j : Nat} (hj : j ∈ Region.ready md ops (lst L r)) {i : Nat} (hi : i < m) (hu : L.getD i false = false) : j < m := by
  obtain ⟨hjl, o, ho, hall⟩ := mem_ready.1 hj
  rcases Nat.lt_or_ge j m with h | h
  · exact h
  exfalso
  rcases Nat.eq_or_lt_of_le h with h | h
  · -- the last part's first
    subst h
    -- the greatest that is left
    have key : ∀ k, k ≤ m → (∀ x, m - k ≤ x → x < m → L.getD x false = true) := by
      intro k
      induction k with
      | zero => intro _ x h1 h2; omega
      | succ k ih =>
        intro hk x h1 h2
        rcases Nat.lt_or_ge x (m - k) with hx | hx
        · obtain ⟨j', hj1, hj2, o', ho', e, he, hb, heq⟩ := ht.cover x h2
          rcases Nat.eq_or_lt_of_le hj2 with h | h
          · subst h
            rw [ho] at ho'
            cases ho'
            have := hall e he hb
            rw [heq, lst_get false (by omega)] at this
            exact this
          · have := hd j' o' ho' (ih (by omega) j' (by omega) h) e he hb
            rwa [heq] at this
        · exact ih (by omega) x hx h2
    have := key m (Nat.le_refl _) i (by omega) hi
    rw [this] at hu
    cases hu
  · obtain ⟨o', ho', e, he, hb, heq⟩ := ht.chain j h (Array.getElem?_eq_some_iff.1 ho).1
    rw [ho] at ho'
    cases ho'
    have := hall e he hb
    rw [heq, lst_get_tail (by omega)] at this
    cases this

theorem lst_set {L : Array Bool} {r j : Nat} (hj : j < L.size) : (lst L r).setIfInBounds j true = lst (L.setIfInBounds j true) r := by
  apply Array.ext'
  simp [lst, List.set_append, hj]

theorem Want.of_pre {o : Oper} {env : Env} {b : Bool} (hpre : ∀ (i : Nat) (o : Oper), pre[i]? = some o → ops[i]? = some o) (h : Want pre o env b) : Want ops o env b := by
  unfold Want at *
  cases hg : o.guard with
  | none => simpa only [hg] using h
  | some p =>
    obtain ⟨j, want⟩ := p
    simp only [hg] at h ⊢
    obtain ⟨t, c, ht, hc, hb⟩ := h
    refine ⟨t, c, ?_, hc, hb⟩
    obtain ⟨oj, ho, hd⟩ := Option.bind_eq_some_iff.1 ht
    rw [hpre j oj ho]; exact hd

theorem first_false {L : Array Bool} (h : L.toList.count false ≠ 0) : ∃ i, i < L.size ∧ L.getD i true = false ∧ ∀ j, j < i → L.getD j false = true := by
  have : ∀ (l : List Bool), l.count false ≠ 0 → ∃ i, i < l.length ∧ l.getD i true = false ∧ ∀ j, j < i → l.getD j false = true := by
    intro l
    induction l with
    | nil => intro h; simp at h
    | cons b l ih =>
      intro h
      cases b with
      | false => exact ⟨0, by simp, rfl, fun j hj => by omega⟩
      | true =>
        obtain ⟨i, h1, h2, h3⟩ := ih (by simpa using h)
        exact ⟨i + 1, by simpa using h1, by simpa using h2, fun j hj => by
          cases j with
          | zero => rfl
          | succ j => simpa using h3 j (by omega)⟩
  obtain ⟨i, h1, h2, h3⟩ := this L.toList h
  refine ⟨i, by simpa using h1, by simpa [Array.getD_eq_getD_getElem?, List.getD_eq_getElem?_getD] using h2, fun j hj => by simpa [Array.getD_eq_getD_getElem?, List.getD_eq_getElem?_getD] using h3 j hj⟩

theorem all_true {L : Array Bool} (h : L.toList.count false = 0) : L = Array.replicate L.size true := by
  apply Array.ext'
  rw [Array.toList_replicate]
  refine List.eq_replicate_iff.2 ⟨by simp, fun b hb => ?_⟩
  cases b with
  | true => rfl
  | false => exact absurd hb (List.count_eq_zero.1 h)

theorem wpAny_pre {K : Ctx} {Qp : Env → Prop} {Q' : Exit → Act → World → Prop} (ht : TailP md ops m) (hpre : ∀ i, i < m → pre[i]? = ops[i]?) (hpz : pre.size = m) (f : Nat)
    (hQ : ∀ env a w, Qp env → Sat K env H a w → wpAnyIn (fen K.r) 0 K.P md ops Q' f (lst (Array.replicate m true) (ops.size - m)) a w) :
    ∀ (fuel : Nat) (L : Array Bool) (env : Env) (a : Act) (w : World), L.size = m → Down md ops L → L.toList.count false = fuel → Sat K env H a w → anyA K.P md pre H K.n Qp fuel L env →
      wpAnyIn (fen K.r) 0 K.P md ops Q' (fuel + f) (lst L (ops.size - m)) a w := by
  have hpre' : ∀ i o, pre[i]? = some o → ops[i]? = some o := fun i o h => by rw [← hpre i (by rw [← hpz]; exact (Array.getElem?_eq_some_iff.1 h).1)]; exact h
  intro fuel
  induction fuel with
  | zero =>
    intro L env a w hL hd hc hs h
    rw [Nat.zero_add, all_true hc, hL]
    exact hQ env a w h.2 hs
  | succ fuel ih =>
    intro L env a w hL hd hc hs h
    obtain ⟨i, hi, hif, hib⟩ := first_false (L := L) (by omega)
    have hif' : L.getD i false = false := by
      simp only [Array.getD_eq_getD_getElem?, Array.getElem?_eq_getElem hi, Option.getD_some] at hif ⊢
      exact hif
    have hiops : i < ops.size := by have := ht.lt; omega
    have hir : i ∈ Region.ready md ops (lst L (ops.size - m)) := mem_ready.2 ⟨by rw [lst_get true hi]; exact hif, ops[i], Array.getElem?_eq_getElem hiops, fun e he hb => by
      have hlt := ht.back i _ (Array.getElem?_eq_getElem hiops) e he hb
      rw [lst_get false (by omega)]
      exact hib _ hlt⟩
    rw [show fuel + 1 + f = (fuel + f) + 1 by omega]
    refine ⟨fun h0 => (by rw [h0] at hir; cases hir), fun j hj => ?_⟩
    have hjm : j < m := ready_pre ht hL hd hj (hL ▸ hi) hif'
    obtain ⟨hjl, o, ho, hall⟩ := mem_ready.1 hj
    have hjo : pre[j]? = some o := by rw [hpre j hjm]; exact ho
    have hjr : j ∈ Region.ready md pre L := mem_ready.2 ⟨by rw [← lst_get true (r := ops.size - m) (by omega)]; exact hjl, o, hjo, fun e he hb => by
      have hlt := ht.back j o ho e he hb
      have := hall e he hb
      rwa [lst_get false (by omega)] at this⟩
    have h1 := h.2 j hjr
    have hjf : L.getD j true = false := (mem_ready.1 hjr).1
    have hjL : j < L.size := by omega
    have hLj : L[j] = false := by simpa [Array.getD_eq_getD_getElem?, Array.getElem?_eq_getElem hjL] using hjf
    have hnext : ∀ env' a' w', Sat K env' H a' w' → anyA K.P md pre H K.n Qp fuel (L.setIfInBounds j true) env' → wpAnyIn (fen K.r) 0 K.P md ops Q' (fuel + f) ((lst L (ops.size - m)).setIfInBounds j true) a' w' := fun env' a' w' hs' h' => by
      rw [lst_set hjL]
      refine ih _ env' a' w' (by simpa using hL) (fun j' o' ho' hl' e he hb => ?_) ?_ hs' h'
      · by_cases hjj : j = j'
        · subst hjj
          rw [ho] at ho'; cases ho'
          have hlt := ht.back j o ho e he hb
          have := hall e he hb
          rw [lst_get false (by omega)] at this
          exact getD_set_true this
        · rw [getD_set_ne false hjj] at hl'
          exact getD_set_true (hd j' o' ho' hl' e he hb)
      · have hjl2 : j < L.toList.length := by simpa using hjL
        have e1 : (L.setIfInBounds j true).toList = L.toList.set j true := by simp
        rw [e1, List.count_set hjl2]
        have : L.toList[j] = false := by simpa using hLj
        rw [this]
        simp only [beq_self_eq_true, if_true]
        have : (true == false) = false := rfl
        rw [this]
        simp only [Bool.false_eq_true, if_false]
        omega
    unfold qA at h1
    simp only [hjo] at h1
    unfold wpOpIn
    simp only [ho]
    obtain ⟨hdn, h1⟩ := h1
    rcases h1 with ⟨hw, d, hp, hk⟩ | ⟨hw, hk⟩
    · have hw' := hw.of_pre hpre'
      rw [if_pos (hw'.wanted hs)]
      exact hp.wp hs hdn fun a' w' hs' => hnext _ _ _ hs' hk
    · have hw' := hw.of_pre hpre'
      rw [if_neg (by rw [hw'.wanted hs]; simp)]
      exact ⟨fun _ _ => trivial, hnext _ _ _ (hs.put (Kept.refl _ _) hdn (fun d hd => by cases hd; exact .v _)) hk⟩

theorem wpAny_tail {F : Fence} {Q' : Exit → Act → World → Prop} (ht : TailP md ops m) : ∀ (k j : Nat) (l : List Oper) (a : Act) (w : World), m ≤ j → j + k = ops.size → (∀ i, l[i]? = ops[j + i]?) → wpListIn F 0 P ops Q' l a w →
    wpAnyIn F 0 P md ops Q' k (lst (Array.replicate j true) k) a w
  | 0, j, l, a, w, hm, hk, hl, h => by
    have hnil : l = [] := by
      cases l with
      | nil => rfl
      | cons o l => have := hl 0; simp at this; rw [Array.getElem?_eq_none (by omega)] at this; cases this
    subst hnil
    refine ⟨?_, h⟩
    apply List.eq_nil_iff_forall_not_mem.2
    intro x hx
    obtain ⟨h1, o, ho, _⟩ := mem_ready.1 hx
    have hlt := (Array.getElem?_eq_some_iff.1 ho).1
    rw [lst_get true (by simp; omega)] at h1
    simp [show x < j by omega] at h1
  | k + 1, j, l, a, w, hm, hk, hl, h => by
    have hjlt : j < ops.size := by omega
    obtain ⟨o, rest, rfl⟩ : ∃ o rest, l = o :: rest := by
      cases l with
      | nil => have := hl 0; simp at this; omega
      | cons o rest => exact ⟨o, rest, rfl⟩
    have ho : ops[j]? = some o := by simpa using (hl 0).symm
    have hjr : j ∈ Region.ready md ops (lst (Array.replicate j true) (k + 1)) := mem_ready.2 ⟨by simp [lst], o, ho, fun e he hb => by
      have hlt := ht.back j o ho e he hb
      rw [lst_get false (by simpa using hlt)]
      simp [hlt]⟩
    refine ⟨fun h0 => (by rw [h0] at hjr; cases hjr), fun x hx => ?_⟩
    obtain ⟨h1, o', ho', hall⟩ := mem_ready.1 hx
    have hxlt := (Array.getElem?_eq_some_iff.1 ho').1
    have hxj : x = j := by
      rcases Nat.lt_trichotomy x j with h | h | h
      · rw [lst_get true (by simpa using h)] at h1
        simp [h] at h1
      · exact h
      · obtain ⟨o2, ho2, e, he, hb, heq⟩ := ht.chain x (by omega) hxlt
        rw [ho'] at ho2; cases ho2
        have := hall e he hb
        rw [heq, lst_get_tail (by simp; omega)] at this
        cases this
    subst hxj
    have hset : (lst (Array.replicate x true) (k + 1)).setIfInBounds x true = lst (Array.replicate (x + 1) true) k := by
      apply Array.ext'
      simp only [lst, Array.toList_setIfInBounds, Array.toList_append, Array.toList_replicate]
      rw [List.set_append_right _ _ (by simp), List.length_replicate, Nat.sub_self, show List.replicate (k + 1) false = false :: List.replicate k false from rfl, List.set_cons_zero, List.replicate_succ', List.append_assoc]
      rfl
    have hstep : ∀ a w, wpListIn F 0 P ops Q' rest a w → wpAnyIn F 0 P md ops Q' k ((lst (Array.replicate x true) (k + 1)).setIfInBounds x true) a w := fun a w hh => by
      rw [hset]
      exact wpAny_tail ht k (x + 1) rest a w (by omega) (by omega) (fun i => by have := hl (i + 1); simpa [Nat.add_assoc, Nat.add_comm 1 i] using this) hh
    unfold wpOpIn
    simp only [ho]
    unfold wpListIn at h
    split
    · rename_i hw; rw [if_pos hw] at h; exact Oper.wpIn_mono hstep h
    · rename_i hw; rw [if_neg hw] at h; exact ⟨h.1, hstep _ _ h.2⟩

end
section
variable {K : Ctx} {Q : Exit → Env → Hp → Prop} {env : Env} {H : Hp}
/-- A region that draws; its first part l1 only reads (and makes memory); its last part l2 is forced behind l1, one behind the other. -/
theorem TC.drawTail {id : Nat} {l1 l2 : List Oper} (hm : K.P.follows .mixedOrders = true) (hB : Region.lexFrom .any l1.toArray l1.length 0 (Array.replicate l1.length false) = true) (ht : tailB .any (l1 ++ l2).toArray l1.length = true)
    (h : TD K l1.toArray l1 (fun _ e H' => TL K (l1 ++ l2).toArray l2 Q e H') env H) : TC K (.region id (l1 ++ l2).toArray true) Q env H := fun a w hs => by
  refine wpIn_region_any hm ?_
  have hT := tailP ht
  have hlex := anyA_lex (P := K.P) (H := H) (n := K.n) (md := .any) (ops := l1.toArray) (Q := fun e => TL K (l1 ++ l2).toArray l2 Q e H) l1 0 (Array.replicate l1.length false) env (by simp) hB h
  have := wpAny_pre (K := K) (Q' := liftQ K Q) (pre := l1.toArray) hT (fun i hi => by simp [List.getElem?_append_left hi]) (by simp) l2.length (fun env a w hq hs => by
      have := wpAny_tail (P := K.P) (F := fen K.r) (Q' := liftQ K Q) hT l2.length l1.length l2 a w (Nat.le_refl _) (by simp) (fun i => by simp [List.getElem?_append_right]) (hq a w hs)
      simpa using this) l1.length (Array.replicate l1.length false) env a _ (by simp) (fun j o ho hl => by
        simp only [Array.getD_eq_getD_getElem?, Array.getElem?_replicate] at hl
        split at hl <;> cases hl) (by simp) hs.drew hlex
  have e1 : (l1 ++ l2).toArray.size = l1.length + l2.length := by simp
  rw [e1]
  simpa [lst, Array.replicate_append_replicate] using this
theorem TC.drawTailN {id : Nat} {l : List Oper} (m : Nat) (hm : K.P.follows .mixedOrders = true) (hB : Region.lexFrom .any (l.take m).toArray (l.take m).length 0 (Array.replicate (l.take m).length false) = true) (ht : tailB .any l.toArray (l.take m).length = true)
    (h : TD K (l.take m).toArray (l.take m) (fun _ e H' => TL K l.toArray (l.drop m) Q e H') env H) : TC K (.region id l.toArray true) Q env H := by
  have := TC.drawTail (K := K) (Q := Q) (env := env) (H := H) (id := id) (l1 := l.take m) (l2 := l.drop m) hm hB (by rw [List.take_append_drop]; exact ht) (by rw [List.take_append_drop]; exact h)
  rwa [List.take_append_drop] at this
end
end Go.Ob
