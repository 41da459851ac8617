import Derived.Test.YtcfnfioefbkamaaDoorN2
set_option linter.unusedVariables false
set_option linter.unusedSimpArgs false
namespace Go.Ob
open Go.Proofs

/-! ### plain: three-way comparison, the first place at which a sorted list is not below a number -/
def cmpI (a b : Int) : Int := if a < b then -1 else if b < a then 1 else 0
theorem cmpI_neg (a b : Int) : cmpI a b < 0 ↔ a < b := by
  unfold cmpI; repeat' split
  all_goals omega
theorem cmpI_zero (a b : Int) : cmpI a b = 0 ↔ a = b := by
  unfold cmpI; repeat' split
  all_goals omega
def lbI (ks : List Int) (t : Int) : Nat := (ks.takeWhile (· < t)).length
def kAt (ks : List Int) (i : Nat) : Int := ks.getD i 0
def Inc (ks : List Int) : Prop := ks.Pairwise (· < ·)
theorem Inc.lt {ks : List Int} (h : Inc ks) {i j : Nat} (hij : i < j) (hj : j < ks.length) : kAt ks i < kAt ks j := by
  have := List.pairwise_iff_getElem.1 h i j (by omega) hj hij
  simpa [kAt, List.getD_eq_getElem?_getD, hj, show i < ks.length by omega] using this
theorem lbI_eq (ks : List Int) (t : Int) : ∀ (i : Nat), i ≤ ks.length → (∀ j, j < i → kAt ks j < t) → (i < ks.length → t ≤ kAt ks i) → lbI ks t = i := by
  unfold lbI
  induction ks with
  | nil => intro i hi _ _; simp at hi; simp [hi]
  | cons k ks ih =>
    intro i hi h1 h2
    cases i with
    | zero =>
      have := h2 (by simp)
      simp only [kAt, List.getD_cons_zero] at this
      simp [show ¬ k < t by omega]
    | succ i =>
      have h0 := h1 0 (by omega)
      simp only [kAt, List.getD_cons_zero] at h0
      rw [List.takeWhile_cons, if_pos (by simpa using h0), List.length_cons]
      rw [ih i (by simpa using hi) (fun j hj => by simpa [kAt] using h1 (j + 1) (by omega)) (fun hl => by simpa [kAt] using h2 (by simpa using hl))]
theorem lbI_le (ks : List Int) (t : Int) : lbI ks t ≤ ks.length := by
  unfold lbI
  exact (List.takeWhile_prefix _).length_le
def inI (ks : List Int) (t : Int) : Bool := decide (lbI ks t < ks.length ∧ kAt ks (lbI ks t) = t)
theorem inc_ext : ∀ {l m : List Int}, Inc l → Inc m → (∀ x, x ∈ l ↔ x ∈ m) → l = m
  | [], [], _, _, _ => rfl
  | [], b :: m, _, _, h => absurd ((h b).2 (by simp)) (by simp)
  | a :: l, [], _, _, h => absurd ((h a).1 (by simp)) (by simp)
  | a :: l, b :: m, hl, hm, h => by
    obtain ⟨l1, l2⟩ := List.pairwise_cons.1 hl
    obtain ⟨m1, m2⟩ := List.pairwise_cons.1 hm
    have hab : a = b := by
      rcases List.mem_cons.1 ((h a).1 (by simp)) with e | e
      · exact e
      · rcases List.mem_cons.1 ((h b).2 (by simp)) with e2 | e2
        · exact e2.symm
        · have := m1 a e; have := l1 b e2; omega
    subst hab
    rw [inc_ext l2 m2 fun x => ⟨fun hx => ?_, fun hx => ?_⟩]
    · rcases List.mem_cons.1 ((h x).1 (by simp [hx])) with e | e
      · subst e; have := l1 x hx; omega
      · exact e
    · rcases List.mem_cons.1 ((h x).2 (by simp [hx])) with e | e
      · subst e; have := m1 x hx; omega
      · exact e
theorem mem_cTo {c : List Int} {j : Nat} : ∀ {k}, (∃ p ∈ cTo c k, p.2 = j) ↔ j < k ∧ Bk c j
  | 0 => ⟨fun ⟨p, hp, _⟩ => (by cases hp), fun ⟨h, _⟩ => (by omega)⟩
  | k + 1 => by
    have ih := mem_cTo (c := c) (j := j) (k := k)
    rw [cTo]
    by_cases h : Bk c k
    · rw [if_pos h]
      constructor
      · rintro ⟨p, hp, e⟩
        rcases List.mem_append.1 hp with hp | hp
        · have := ih.1 ⟨p, hp, e⟩; exact ⟨by omega, this.2⟩
        · rw [List.mem_singleton.1 hp] at e; subst e; exact ⟨Nat.lt_succ_self _, h⟩
      · rintro ⟨h1, h2⟩
        rcases Nat.lt_or_eq_of_le (Nat.le_of_lt_succ h1) with hl | hl
        · obtain ⟨p, hp, e⟩ := ih.2 ⟨hl, h2⟩
          exact ⟨p, List.mem_append_left _ hp, e⟩
        · subst hl; exact ⟨_, List.mem_append_right _ (List.mem_singleton.2 rfl), rfl⟩
    · rw [if_neg h]
      rw [ih]
      constructor
      · exact fun ⟨h1, h2⟩ => ⟨by omega, h2⟩
      · rintro ⟨h1, h2⟩
        rcases Nat.lt_or_eq_of_le (Nat.le_of_lt_succ h1) with hl | hl
        · exact ⟨hl, h2⟩
        · subst hl; exact absurd h2 h
theorem mem_bnds {c : List Int} {x : Int} : x ∈ bnds c ↔ ∃ j : Nat, x = j ∧ (j = 0 ∨ j = c.length ∨ (j < c.length ∧ Bk c j)) := by
  unfold bnds ends
  rw [List.mem_cons]
  constructor
  · rintro (h | h)
    · exact ⟨0, h, .inl rfl⟩
    · obtain ⟨p, hp, e⟩ := List.mem_map.1 h
      unfold cAll at hp
      rcases List.mem_append.1 hp with hp | hp
      · obtain ⟨h1, h2⟩ := mem_cTo.1 ⟨p, hp, rfl⟩
        exact ⟨p.2, e.symm, .inr (.inr ⟨h1, h2⟩)⟩
      · split at hp
        · rw [List.mem_singleton.1 hp] at e
          exact ⟨c.length, e.symm, .inr (.inl rfl)⟩
        · cases hp
  · rintro ⟨j, rfl, h⟩
    by_cases h0 : j = 0
    · subst h0; exact .inl rfl
    · refine .inr (List.mem_map.2 ?_)
      rcases h with h | h | ⟨h1, h2⟩
      · exact absurd h h0
      · refine ⟨(lastB c c.length, c.length), ?_, by rw [h]⟩
        unfold cAll
        rw [if_pos (by omega)]
        simp
      · obtain ⟨p, hp, e⟩ := mem_cTo.2 ⟨h1, h2⟩
        exact ⟨p, List.mem_append_left _ hp, by rw [e]⟩
theorem inc_cTo (c : List Int) : ∀ k, (cTo c k).Pairwise (fun p q => p.2 < q.2)
  | 0 => .nil
  | k + 1 => by
    rw [cTo]
    split
    · rw [List.pairwise_append]
      refine ⟨inc_cTo c k, List.pairwise_singleton _ _, fun p hp q hq => ?_⟩
      rw [List.mem_singleton.1 hq]
      exact (cTo_mem hp).2.1
    · exact inc_cTo c k
theorem inc_cAll (c : List Int) : (cAll c).Pairwise (fun p q => p.2 < q.2) := by
  unfold cAll
  rw [List.pairwise_append]
  refine ⟨inc_cTo c _, by split <;> simp, fun p hp q hq => ?_⟩
  split at hq
  · rw [List.mem_singleton.1 hq]
    exact (cTo_mem hp).2.1
  · cases hq
theorem inc_bnds (c : List Int) : Inc (bnds c) := by
  unfold bnds ends Inc
  rw [List.pairwise_cons]
  refine ⟨fun x hx => ?_, ?_⟩
  · obtain ⟨p, hp, e⟩ := List.mem_map.1 hx
    have := (cAll_mem hp).2.2
    omega
  · rw [List.pairwise_map]
    exact (inc_cAll c).imp fun h => by omega
theorem bnds_last (c : List Int) : iAt (bnds c) ((bnds c).length - 1 : Int) = c.length := by
  by_cases h : 0 < c.length
  · obtain ⟨h1, h2⟩ := cAll_last c h
    have hb : (bnds c).length = (cAll c).length + 1 := ends_len _
    have := cAll_snd c (cTo c c.length).length (by omega)
    rw [show ((bnds c).length - 1 : Int) = ((cTo c c.length).length : Int) + 1 by omega, this, List.getD_eq_getElem?_getD, h1]
    rfl
  · have : c = [] := List.eq_nil_of_length_eq_zero (by omega)
    subst this; rfl
/-- a suffix at a boundary has the boundaries from there on -/
theorem bnds_drop {c : List Int} {k : Nat} (hk : k < (bnds c).length) {a : Nat} (ha : iAt (bnds c) k = a) : (bnds (c.drop a)).map (· + (a : Int)) = (bnds c).drop k := by
  have hm : (a : Int) ∈ bnds c := by
    rw [← ha]; unfold iAt
    rw [Int.toNat_natCast, List.getD_eq_getElem?_getD, List.getElem?_eq_getElem hk]
    exact List.getElem_mem hk
  obtain ⟨a', e, hb⟩ := mem_bnds.1 hm
  obtain rfl : a = a' := by omega
  have hal : a ≤ c.length := by rcases hb with h | h | h <;> omega
  have hlen : (c.drop a).length = c.length - a := List.length_drop
  refine inc_ext ?_ ((inc_bnds c).sublist (List.drop_sublist _ _)) fun x => ?_
  · unfold Inc
    rw [List.pairwise_map]
    exact (inc_bnds _).imp fun h => by omega
  · have hd : x ∈ (bnds c).drop k ↔ x ∈ bnds c ∧ (a : Int) ≤ x := by
      constructor
      · intro hx
        obtain ⟨n, hn, rfl⟩ := List.getElem_of_mem hx
        rw [List.length_drop] at hn
        rw [List.getElem_drop]
        refine ⟨List.getElem_mem _, ?_⟩
        have hka : (bnds c)[k] = (a : Int) := by
          rw [← ha]; unfold iAt; simp [hk]
        rcases Nat.eq_zero_or_pos n with rfl | hp
        · simp only [Nat.add_zero]; omega
        · have := List.pairwise_iff_getElem.1 (inc_bnds c) k (k + n) hk (by omega) (by omega)
          omega
      · rintro ⟨hx, hge⟩
        obtain ⟨n, hn, rfl⟩ := List.getElem_of_mem hx
        have hka : (bnds c)[k] = (a : Int) := by
          rw [← ha]; unfold iAt; simp [hk]
        rcases Nat.lt_or_ge n k with hl | hl
        · have := List.pairwise_iff_getElem.1 (inc_bnds c) n k hn hk hl
          omega
        · have e : (bnds c)[n] = ((bnds c).drop k)[n - k]'(by rw [List.length_drop]; omega) := by
            rw [List.getElem_drop]; congr 1; omega
          rw [e]; exact List.getElem_mem _
    rw [hd, List.mem_map]
    constructor
    · rintro ⟨y, hy, rfl⟩
      obtain ⟨j, rfl, h⟩ := mem_bnds.1 hy
      rw [hlen] at h
      refine ⟨mem_bnds.2 ⟨j + a, by omega, ?_⟩, by omega⟩
      by_cases h0 : j = 0
      · subst h0; rw [Nat.zero_add]; exact hb
      · rcases h with h | h | ⟨h1, h2⟩
        · exact absurd h h0
        · exact .inr (.inl (by omega))
        · refine .inr (.inr ⟨by omega, by omega, ?_⟩)
          have hba : a = 0 ∨ Bk c a := by
            rcases hb with h | h | h
            · exact .inl h
            · omega
            · exact .inr h.2
          rw [Nat.add_comm, ← bAt_drop hba j (by omega)]
          exact h2.2
    · rintro ⟨hx, hge⟩
      obtain ⟨j, rfl, h⟩ := mem_bnds.1 hx
      refine ⟨((j - a : Nat) : Int), mem_bnds.2 ⟨j - a, rfl, ?_⟩, by omega⟩
      rw [hlen]
      by_cases h0 : j = a
      · exact .inl (by omega)
      · rcases h with h | h | ⟨h1, h2⟩
        · omega
        · exact .inr (.inl (by omega))
        · refine .inr (.inr ⟨by omega, by omega, ?_⟩)
          have hba : a = 0 ∨ Bk c a := by
            rcases hb with h | h | h
            · exact .inl h
            · omega
            · exact .inr h.2
          rw [bAt_drop hba (j - a) (by omega), show a + (j - a) = j by omega]
          exact h2.2
/-! ### moving among the boundaries -/
theorem kAt_iAt (l : List Int) (i : Int) (h0 : 0 ≤ i) : kAt l i.toNat = iAt l i := rfl
def nextP (l : List Int) (a : Int) : Int := iAt l (min (lbI l (a + 1) : Int) ((l.length : Int) - 1))
def floorP (l : List Int) (a : Int) : Int := iAt l (max 0 ((lbI l (a + 1) : Int) - 1))
theorem lb_lo (l : List Int) (t : Int) : ∀ j : Nat, j < lbI l t → kAt l j < t := by
  induction l with
  | nil => intro j h; simp [lbI] at h
  | cons k l ih =>
    intro j h
    by_cases hk : k < t
    · have e : lbI (k :: l) t = lbI l t + 1 := by simp [lbI, hk]
      cases j with
      | zero => exact hk
      | succ j => exact ih j (by omega)
    · have e : lbI (k :: l) t = 0 := by simp [lbI, hk]
      omega
theorem lb_hi {l : List Int} (hl : Inc l) (t : Int) : ∀ j : Nat, lbI l t ≤ j → j < l.length → t ≤ kAt l j := by
  induction l with
  | nil => intro j _ h; simp at h
  | cons k l ih =>
    intro j h hj
    obtain ⟨l1, l2⟩ := List.pairwise_cons.1 hl
    by_cases hk : k < t
    · have e : lbI (k :: l) t = lbI l t + 1 := by simp [lbI, hk]
      cases j with
      | zero => omega
      | succ j => exact ih l2 j (by omega) (by simpa using hj)
    · cases j with
      | zero => exact Int.not_lt.1 hk
      | succ j =>
        have hj' : j < l.length := by simpa using hj
        have := l1 l[j] (List.getElem_mem hj')
        have e : kAt (k :: l) (j + 1) = l[j] := by simp [kAt, hj']
        rw [e]; omega
theorem lb_at {l : List Int} (hl : Inc l) (i : Nat) (h : i < l.length) : lbI l (kAt l i) = i ∧ lbI l (kAt l i + 1) = i + 1 := by
  refine ⟨lbI_eq l _ i (by omega) (fun j hj => hl.lt hj h) (fun _ => Int.le_refl _), lbI_eq l _ (i + 1) (by omega) (fun j hj => ?_) (fun h2 => ?_)⟩
  · rcases Nat.lt_or_eq_of_le (Nat.le_of_lt_succ hj) with h1 | h1
    · have := hl.lt h1 h; omega
    · rw [h1]; omega
  · have := hl.lt (show i < i + 1 by omega) h2; omega
theorem floorP_self {l : List Int} (hl : Inc l) (h0 : iAt l 0 = 0) (hne : 0 < l.length) (a : Int) (ha : 0 ≤ a) : floorP l a = a ↔ inI l a = true := by
  have hle := lbI_le l (a + 1)
  have h1 : 1 ≤ lbI l (a + 1) := by
    rcases Nat.eq_zero_or_pos (lbI l (a + 1)) with h | h
    · have := lb_hi hl (a + 1) 0 (by omega) hne
      have e : kAt l 0 = 0 := h0
      omega
    · exact h
  unfold floorP inI
  rw [decide_eq_true_eq]
  have e : max 0 ((lbI l (a + 1) : Int) - 1) = ((lbI l (a + 1) - 1 : Nat) : Int) := by omega
  rw [e]
  constructor
  · intro h
    have hk : kAt l (lbI l (a + 1) - 1) = a := h
    obtain ⟨q1, q2⟩ := lb_at hl (lbI l (a + 1) - 1) (by omega)
    rw [hk] at q1
    rw [q1]
    exact ⟨by omega, hk⟩
  · rintro ⟨h2, h3⟩
    obtain ⟨q1, q2⟩ := lb_at hl _ h2
    rw [h3] at q2
    rw [q2, Nat.add_sub_cancel]
    exact h3
theorem bnds_pos (c : List Int) : 0 < (bnds c).length := by have : (bnds c).length = (cAll c).length + 1 := ends_len _; omega
theorem bnds_zero (c : List Int) : iAt (bnds c) 0 = 0 := rfl
theorem bnds_le (c : List Int) (i : Int) (h0 : 0 ≤ i) (h : i < (bnds c).length) : 0 ≤ iAt (bnds c) i ∧ iAt (bnds c) i ≤ c.length := by
  have hm : iAt (bnds c) i ∈ bnds c := by
    unfold iAt
    have : i.toNat < (bnds c).length := by omega
    rw [List.getD_eq_getElem?_getD, List.getElem?_eq_getElem this]
    exact List.getElem_mem this
  obtain ⟨j, e, hb⟩ := mem_bnds.1 hm
  rcases hb with h | h | h <;> omega
end Go.Ob
