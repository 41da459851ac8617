import Derived.Test.YtkmgogabbefonaaDoorN
set_option linter.unusedVariables false
set_option linter.unusedSimpArgs false
namespace Go.Ob
open Go.Proofs
/-! ### substrings that are cut at code points -/
theorem decodeN_cut {n n' b0 b1 b2 b3 c1 c2 c3 : Nat} (hw : (Lib.decodeN n b0 b1 b2 b3).2 ≤ n') (hb : ¬ ((Lib.decodeN n b0 b1 b2 b3).1 = 65533 ∧ (Lib.decodeN n b0 b1 b2 b3).2 = 1))
    (h1 : 2 ≤ (Lib.decodeN n b0 b1 b2 b3).2 → c1 = b1) (h2 : 3 ≤ (Lib.decodeN n b0 b1 b2 b3).2 → c2 = b2) (h3 : 4 ≤ (Lib.decodeN n b0 b1 b2 b3).2 → c3 = b3) :
    Lib.decodeN n' b0 c1 c2 c3 = Lib.decodeN n b0 b1 b2 b3 := by
  rcases Lib.decodeN_shape n b0 b1 b2 b3 with ⟨k1, e⟩ | ⟨k1, k2, k3, kv, e⟩ | ⟨k1, k2, k3, k4, kv, ks, e⟩ | ⟨k1, k2, k3, k4, k5, kv, kw, e⟩ | e
  · rw [e]; unfold Lib.decodeN; rw [if_pos k1]
  · rw [e] at hw h1 ⊢
    have hw' : 2 ≤ n' := hw
    obtain rfl := h1 (Nat.le_refl _)
    unfold Lib.decodeN
    rw [if_neg (by omega), if_pos ⟨k1, by omega, k3⟩, if_pos (by omega)]
  · rw [e] at hw h1 h2 ⊢
    have hw' : 3 ≤ n' := hw
    obtain rfl := h1 (by show 2 ≤ 3; omega)
    obtain rfl := h2 (Nat.le_refl _)
    unfold Lib.decodeN
    rw [if_neg (by omega), if_neg (by omega), if_pos ⟨k1, ⟨by omega, k3⟩, by omega, k4⟩, if_pos (by omega)]
  · rw [e] at hw h1 h2 h3 ⊢
    have hw' : 4 ≤ n' := hw
    obtain rfl := h1 (by show 2 ≤ 4; omega)
    obtain rfl := h2 (by show 3 ≤ 4; omega)
    obtain rfl := h3 (Nat.le_refl _)
    unfold Lib.decodeN
    rw [if_neg (by omega), if_neg (by omega), if_neg (by omega), if_pos ⟨k1, ⟨by omega, k3⟩, ⟨by omega, k4⟩, by omega, k5⟩, if_pos (by omega)]
  · rw [e] at hb; exact absurd ⟨rfl, rfl⟩ hb
theorem byt_extract (s : ByteArray) (a b i : Nat) (h : a + i < b) (hb : b ≤ s.size) : byt (s.extract a b) i = byt s (a + i) := by
  unfold byt
  have e : (s.extract a b).data.toList = (s.data.toList.take b).drop a := by
    rw [ByteArray.data_extract, Array.toList_extract, List.extract_eq_take_drop, List.drop_take]
  rw [e]
  simp only [List.getD_eq_getElem?_getD, List.getElem?_drop]
  rw [List.getElem?_take_of_lt h]
theorem size_sub (s : ByteArray) (a b : Nat) (h : a ≤ b) (hb : b ≤ s.size) : (s.extract a b).size = b - a := by rw [ByteArray.size_extract]; omega
/-- decoding within a substring -/
theorem dc_sub {s : ByteArray} {a b p : Nat} (hab : a ≤ b) (hb : b ≤ s.size) (hp : a + p < b) (hw : a + p + (Utf8.decode s (a + p)).2 ≤ b) (hbad : ¬ BadAt s (a + p)) :
    Utf8.decode (s.extract a b) p = Utf8.decode s (a + p) := by
  unfold BadAt at hbad
  rw [dc_N] at hw hbad
  rw [dc_N (s.extract a b), dc_N s, size_sub s a b hab hb, byt_extract s a b p hp hb]
  refine decodeN_cut (by omega) hbad (fun h => ?_) (fun h => ?_) (fun h => ?_)
  · rw [byt_extract s a b (p + 1) (by omega) hb, Nat.add_assoc]
  · rw [byt_extract s a b (p + 2) (by omega) hb, Nat.add_assoc]
  · rw [byt_extract s a b (p + 3) (by omega) hb, Nat.add_assoc]
theorem okS_at {s : ByteArray} (h : okS s = true) {k : Nat} (hk : k < nR s) : ¬ BadAt s (rpos s k) := (of_decide_eq_true h) k hk
theorem rpos_sub {s : ByteArray} (hok : okS s = true) {a b : Nat} (hab : a ≤ b) (hb : b ≤ nR s) : ∀ k, k ≤ b - a → rpos s a + rpos (s.extract (rpos s a) (rpos s b)) k = rpos s (a + k)
  | 0, _ => rfl
  | k + 1, h => by
    have ih := rpos_sub hok hab hb k (by omega)
    have hbs : rpos s b ≤ s.size := by rw [← nR_end s]; exact rpos_mono s hb
    have h1 : rpos s (a + k) < rpos s b := rpos_strict s (by omega)
    have h2 : rpos s (a + k + 1) ≤ rpos s b := rpos_mono s (by omega)
    have hd : Utf8.decode (s.extract (rpos s a) (rpos s b)) (rpos (s.extract (rpos s a) (rpos s b)) k) = Utf8.decode s (rpos s (a + k)) := by
      have := dc_sub (s := s) (a := rpos s a) (b := rpos s b) (p := rpos (s.extract (rpos s a) (rpos s b)) k) (rpos_mono s hab) hbs (by omega) (by rw [ih]; exact h2) (by rw [ih]; exact okS_at hok (by omega))
      rw [this, ih]
    rw [rpos, ← Nat.add_assoc, ih, hd, ← Nat.add_assoc, rpos]
theorem dc_at_sub {s : ByteArray} (hok : okS s = true) {a b : Nat} (hab : a ≤ b) (hb : b ≤ nR s) {k : Nat} (hk : k < b - a) :
    Utf8.decode (s.extract (rpos s a) (rpos s b)) (rpos (s.extract (rpos s a) (rpos s b)) k) = Utf8.decode s (rpos s (a + k)) := by
  have ih := rpos_sub hok hab hb k (by omega)
  have hbs : rpos s b ≤ s.size := by rw [← nR_end s]; exact rpos_mono s hb
  have h1 : rpos s (a + k) < rpos s b := rpos_strict s (by omega)
  have h2 : rpos s (a + k + 1) ≤ rpos s b := rpos_mono s (by omega)
  have := dc_sub (s := s) (a := rpos s a) (b := rpos s b) (p := rpos (s.extract (rpos s a) (rpos s b)) k) (rpos_mono s hab) hbs (by omega) (by rw [ih]; exact h2) (by rw [ih]; exact okS_at hok (by omega))
  rw [this, ih]
theorem nR_sub {s : ByteArray} (hok : okS s = true) {a b : Nat} (hab : a ≤ b) (hb : b ≤ nR s) : nR (s.extract (rpos s a) (rpos s b)) = b - a := by
  have hbs : rpos s b ≤ s.size := by rw [← nR_end s]; exact rpos_mono s hb
  have := rpos_sub hok hab hb (b - a) (Nat.le_refl _)
  rw [show a + (b - a) = b by omega] at this
  exact (nR_eq (by rw [size_sub s _ _ (rpos_mono s hab) hbs]; omega)).symm
theorem okS_sub {s : ByteArray} (hok : okS s = true) {a b : Nat} (hab : a ≤ b) (hb : b ≤ nR s) : okS (s.extract (rpos s a) (rpos s b)) = true := by
  refine decide_eq_true fun k hk => ?_
  rw [nR_sub hok hab hb] at hk
  have := okS_at hok (show a + k < nR s by omega)
  unfold BadAt at this ⊢
  rwa [dc_at_sub hok hab hb hk]
theorem cls_sub {s : ByteArray} (hok : okS s = true) {a b : Nat} (hab : a ≤ b) (hb : b ≤ nR s) : cls (s.extract (rpos s a) (rpos s b)) = ((cls s).drop a).take (b - a) := by
  apply List.ext_getElem?
  intro j
  rcases Nat.lt_or_ge j (b - a) with hj | hj
  · rw [List.getElem?_take_of_lt hj, List.getElem?_drop]
    have l1 : j < nR (s.extract (rpos s a) (rpos s b)) := by rw [nR_sub hok hab hb]; exact hj
    have l2 : a + j < nR s := by omega
    simp only [cls, pts, ptsTo, List.getElem?_map, List.getElem?_range l1, List.getElem?_range l2, Option.map_some, ptN]
    rw [dc_at_sub hok hab hb hj]
  · rw [List.getElem?_eq_none (by rw [cls_len, nR_sub hok hab hb]; exact hj), List.getElem?_eq_none (by rw [List.length_take]; omega)]
/-! ### boundaries within a part -/
theorem iAt_drop (c : List Int) (a j : Nat) : iAt (c.drop a) j = iAt c ((a + j : Nat) : Int) := by
  unfold iAt
  rw [show (((a + j : Nat)) : Int).toNat = a + j by omega, Int.toNat_natCast]
  simp [List.getD_eq_getElem?_getD, List.getElem?_drop]
theorem iAt_take (c : List Int) (m j : Nat) (h : j < m) : iAt (c.take m) j = iAt c j := by
  simp only [iAt, List.getD_eq_getElem?_getD, Int.toNat_natCast]
  rw [List.getElem?_take_of_lt h]
theorem stL_take (c : List Int) (m : Nat) : ∀ k, k ≤ m → stL (c.take m) k = stL c k
  | 0, _ => rfl
  | k + 1, h => by rw [stL, stL, stL_take c m k (by omega), iAt_take c m k (by omega)]
theorem bAt_take (c : List Int) (m k : Nat) (h : k < m) : bAt (c.take m) k = bAt c k := by
  unfold bAt; rw [stL_take c m k (by omega), iAt_take c m k h]
/-- Behind a boundary the machine finds what it finds from the beginning on. -/
structure Alike (x y : MS) : Prop where
  before : x.before = y.before
  pic : x.pic = y.pic
  picd : x.picd = y.picd
  reg : x.reg % 2 = y.reg % 2
theorem Alike.bd {x y : MS} (h : Alike x y) (b : Int) : bd x.before b x.picd x.reg = bd y.before b y.picd y.reg := by
  unfold Go.Ob.bd; rw [h.before, h.picd, h.reg]
theorem Alike.step {x y : MS} (h : Alike x y) (c : Int) : Alike (stepM x c) (stepM y c) := by
  refine ⟨rfl, ?_, ?_, ?_⟩
  · simp only [stepM, h.pic]
  · simp only [stepM, h.pic]
  · simp only [stepM]
    have := h.reg
    split <;> omega
theorem alike_first {c : List Int} {a : Nat} (h : a = 0 ∨ Bk c a) : Alike (stL c (a + 1)) (stL (c.drop a) 1) := by
  have e0 : iAt (c.drop a) ((0 : Nat) : Int) = iAt c a := iAt_drop c a 0
  rcases h with rfl | ⟨h1, h2⟩
  · rw [List.drop_zero]; exact ⟨rfl, rfl, rfl, rfl⟩
  · obtain ⟨m, rfl⟩ : ∃ m, a = m + 1 := ⟨a - 1, by omega⟩
    unfold bAt at h2
    rw [st_before] at h2
    have hp := st_pic c m
    have hr := st_reg c m
    refine ⟨by rw [st_before, show stL (List.drop (m + 1) c) 1 = stepM m0 (iAt (c.drop (m + 1)) ((0 : Nat) : Int)) from rfl, e0]; rfl, ?_, ?_, ?_⟩
    · rw [st_pic, show stL (List.drop (m + 1) c) 1 = stepM m0 (iAt (c.drop (m + 1)) ((0 : Nat) : Int)) from rfl, e0]
      simp only [stepM, m0, Bool.false_eq_true, and_false, or_false]
      rw [decide_eq_decide]
      refine ⟨fun h => ?_, fun h => .inl h⟩
      rcases h with h | ⟨h, hh⟩
      · exact h
      · exfalso
        rw [hp, decide_eq_true_eq] at hh
        unfold bd Ctl at h2
        rw [h] at h2
        (repeat' split at h2) <;> first | omega | (cases h2; done) | (simp_all; omega)
    · rw [st_picd, show stL (List.drop (m + 1) c) 1 = stepM m0 (iAt (c.drop (m + 1)) ((0 : Nat) : Int)) from rfl, e0]
      simp only [stepM, m0, Bool.false_eq_true, and_false, decide_false]
      refine decide_eq_false fun ⟨h, hh⟩ => ?_
      rw [hp, decide_eq_true_eq] at hh
      unfold bd Ctl at h2
      rw [h] at h2
      (repeat' split at h2) <;> first | omega | (cases h2; done) | (simp_all; omega)
    · rw [st_reg, show stL (List.drop (m + 1) c) 1 = stepM m0 (iAt (c.drop (m + 1)) ((0 : Nat) : Int)) from rfl, e0]
      simp only [stepM, m0]
      by_cases h13 : iAt c ((m + 1 : Nat) : Int) = 13
      · rw [if_pos h13, if_pos h13]
        by_cases hb : iAt c m = 13
        · rw [h13, hb] at h2
          have h3 := st_reg_range c (m + 1)
          unfold bd Ctl Hang at h2
          simp only [show ¬ ((13 : Int) = 1 ∧ (13 : Int) = 2) by omega, show ¬ (((13 : Int) = 1 ∨ (13 : Int) = 2 ∨ (13 : Int) = 3) ∨ ((13 : Int) = 1 ∨ (13 : Int) = 2 ∨ (13 : Int) = 3)) by omega, if_false] at h2
          rw [if_neg (by omega), if_neg (by omega)] at h2
          split at h2
          · cases h2
          · rename_i hq
            have : ¬ (stL c (m + 1)).reg % 2 = 1 := fun e => hq (by simp [e])
            omega
        · rw [hr, if_neg hb]
      · rw [if_neg h13, if_neg h13]
theorem alike_drop {c : List Int} {a : Nat} (h : a = 0 ∨ Bk c a) : ∀ j, Alike (stL c (a + (j + 1))) (stL (c.drop a) (j + 1))
  | 0 => alike_first h
  | j + 1 => by
    rw [show a + (j + 1 + 1) = (a + (j + 1)) + 1 by omega, stL, stL, iAt_drop]
    exact (alike_drop h j).step _
theorem bAt_drop {c : List Int} {a : Nat} (h : a = 0 ∨ Bk c a) (j : Nat) (hj : 1 ≤ j) : bAt (c.drop a) j = bAt c (a + j) := by
  obtain ⟨m, rfl⟩ : ∃ m, j = m + 1 := ⟨j - 1, by omega⟩
  unfold bAt
  rw [iAt_drop, (alike_drop h m).bd]
theorem lastB_spec (c : List Int) : ∀ k, (lastB c k = 0 ∨ Bk c (lastB c k)) ∧ ∀ j, lastB c k < j → j < k → ¬ Bk c j
  | 0 => ⟨.inl rfl, fun j h1 h2 => by omega⟩
  | k + 1 => by
    obtain ⟨h1, h2⟩ := lastB_spec c k
    rw [lastB]
    by_cases h : Bk c k
    · rw [if_pos h]; exact ⟨.inr h, fun j a b => by omega⟩
    · rw [if_neg h]
      refine ⟨h1, fun j a b hj => ?_⟩
      rcases Nat.lt_or_eq_of_le (Nat.le_of_lt_succ b) with hl | hl
      · exact h2 j a hl hj
      · exact h (hl ▸ hj)
theorem cTo_mem {c : List Int} {p : Nat × Nat} : ∀ {k}, p ∈ cTo c k → p.1 = lastB c p.2 ∧ p.2 < k ∧ 1 ≤ p.2
  | 0, h => by cases h
  | k + 1, h => by
    rw [cTo] at h
    split at h
    · rename_i hb
      rcases List.mem_append.1 h with h | h
      · obtain ⟨a, b, d⟩ := cTo_mem h; exact ⟨a, by omega, d⟩
      · rw [List.mem_singleton.1 h]; exact ⟨rfl, Nat.lt_succ_self _, hb.1⟩
    · obtain ⟨a, b, d⟩ := cTo_mem h; exact ⟨a, by omega, d⟩
theorem cAll_mem {c : List Int} {p : Nat × Nat} (h : p ∈ cAll c) : p.1 = lastB c p.2 ∧ p.2 ≤ c.length ∧ p.1 < p.2 := by
  unfold cAll at h
  rcases List.mem_append.1 h with h | h
  · obtain ⟨a, b, d⟩ := cTo_mem h
    exact ⟨a, by omega, by rw [a]; exact lastB_lt c _ d⟩
  · split at h
    · rename_i hl
      rw [List.mem_singleton.1 h]
      exact ⟨rfl, Nat.le_refl _, lastB_lt c _ hl⟩
    · cases h
theorem cTo_none {c : List Int} : ∀ {k}, (∀ j, j < k → ¬ Bk c j) → cTo c k = []
  | 0, _ => rfl
  | k + 1, h => by rw [cTo, if_neg (h k (Nat.lt_succ_self _)), cTo_none fun j hj => h j (by omega)]
theorem cAll_one {c : List Int} (h0 : 0 < c.length) (h : ∀ j, j < c.length → ¬ Bk c j) : (cAll c).length = 1 := by
  unfold cAll; rw [cTo_none h, if_pos h0]; rfl
/-- a cluster by itself is a single one -/
theorem cluster_one {c : List Int} {p : Nat × Nat} (h : p ∈ cAll c) : (cAll ((c.drop p.1).take (p.2 - p.1))).length = 1 := by
  obtain ⟨h1, h2, h3⟩ := cAll_mem h
  obtain ⟨q1, q2⟩ := lastB_spec c p.2
  rw [← h1] at q1 q2
  have hl : ((c.drop p.1).take (p.2 - p.1)).length = p.2 - p.1 := by rw [List.length_take, List.length_drop]; omega
  refine cAll_one (by rw [hl]; omega) fun j hj ⟨a, b⟩ => ?_
  rw [hl] at hj
  rw [bAt_take _ _ _ hj, bAt_drop q1 j a] at b
  exact q2 (p.1 + j) (by omega) (by omega) ⟨by omega, b⟩
theorem ends_fst (c : List Int) : ∀ k, ∀ i, i < (cTo c k).length → iAt (ends (cTo c k)) (i : Int) = (((cTo c k).getD i (0, 0)).1 : Int) := by
  have key : ∀ k, iAt (ends (cTo c k)) ((cTo c k).length : Int) = (lastB c k : Int) ∧ ∀ i, i < (cTo c k).length → iAt (ends (cTo c k)) (i : Int) = (((cTo c k).getD i (0, 0)).1 : Int) := by
    intro k
    induction k with
    | zero => exact ⟨rfl, fun i h => absurd h (by simp [cTo])⟩
    | succ k ih =>
      rw [cTo, lastB]
      by_cases h : Bk c k
      · rw [if_pos h, if_pos h, ends_snoc]
        have hl := ends_len (cTo c k)
        refine ⟨?_, fun i hi => ?_⟩
        · unfold iAt; simp [List.getD_eq_getElem?_getD, hl]
        · rw [iAt_snoc _ _ _ (by omega) (by rw [hl]; simp at hi; omega)]
          rcases Nat.lt_or_ge i (cTo c k).length with h2 | h2
          · rw [ih.2 i h2]; simp [List.getD_eq_getElem?_getD, List.getElem?_append_left h2]
          · have : i = (cTo c k).length := by simp at hi; omega
            subst this
            rw [ih.1]; simp [List.getD_eq_getElem?_getD]
      · rw [if_neg h, if_neg h]; exact ih
  exact fun k => (key k).2
theorem cAll_fst (c : List Int) (i : Nat) (h : i < (cAll c).length) : iAt (bnds c) (i : Int) = (((cAll c).getD i (0, 0)).1 : Int) := by
  have key : ∀ k, iAt (ends (cTo c k)) ((cTo c k).length : Int) = (lastB c k : Int) := by
    intro k
    induction k with
    | zero => rfl
    | succ k ih =>
      rw [cTo, lastB]
      by_cases h : Bk c k
      · rw [if_pos h, if_pos h, ends_snoc]
        have hl := ends_len (cTo c k)
        unfold iAt; simp [List.getD_eq_getElem?_getD, hl]
      · rw [if_neg h, if_neg h]; exact ih
  unfold bnds
  by_cases hl : c.length > 0
  · have e : cAll c = cTo c c.length ++ [(lastB c c.length, c.length)] := by unfold cAll; rw [if_pos hl]
    rw [e] at h ⊢
    have hle := ends_len (cTo c c.length)
    rw [ends_snoc, iAt_snoc _ _ _ (by omega) (by rw [hle]; simp at h; omega)]
    rcases Nat.lt_or_ge i (cTo c c.length).length with h2 | h2
    · rw [ends_fst c _ i h2]; simp [List.getD_eq_getElem?_getD, List.getElem?_append_left h2]
    · have : i = (cTo c c.length).length := by simp at h; omega
      subst this
      rw [key]; simp [List.getD_eq_getElem?_getD]
  · have : c = [] := List.eq_nil_of_length_eq_zero (by omega)
    subst this
    exact absurd h (by simp [cAll, cTo])
theorem cAll_snd (c : List Int) (i : Nat) (h : i < (cAll c).length) : iAt (bnds c) ((i : Int) + 1) = (((cAll c).getD i (0, 0)).2 : Int) := by
  unfold bnds ends iAt
  rw [show ((i : Int) + 1).toNat = i + 1 by omega, List.getD_cons_succ]
  simp [List.getD_eq_getElem?_getD, h]
end Go.Ob
