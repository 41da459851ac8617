import Derived.Test.YtkmgogabbefonaaDoorK1
import Derived.Lib.ValidLaws
set_option linter.unusedVariables false
set_option linter.unusedSimpArgs false
namespace Go.Ob
open Go.Proofs
/-! ### the code points of a string -/
theorem dc_N (s : ByteArray) (p : Nat) : Utf8.decode s p = Lib.decodeN (s.size - p) (byt s p) (byt s (p + 1)) (byt s (p + 2)) (byt s (p + 3)) := by
  rw [Lib.decode_N, ← Lib.size_eq]; rfl
theorem dc_pos (s : ByteArray) (p : Nat) : 1 ≤ (Utf8.decode s p).2 := by
  rw [← Lib.decodeL_drop]; exact Lib.decodeL_width _
theorem dc_in (s : ByteArray) (p : Nat) (h : p < s.size) : p + (Utf8.decode s p).2 ≤ s.size := by
  rw [← Lib.decodeL_drop]
  have := Lib.decodeL_le (s.data.toList.drop p) (fun e => by
    have := congrArg List.length e
    rw [List.length_drop, ← Lib.size_eq] at this
    simp at this; omega)
  rw [List.length_drop, ← Lib.size_eq] at this
  omega
theorem dc_rune (s : ByteArray) (p : Nat) : (Utf8.decode s p).1 ≤ 1114111 := by
  rw [← Lib.decodeL_drop]; exact Lib.decodeL_rune _
/-- where the k-th code point begins -/
def rpos (s : ByteArray) : Nat → Nat
  | 0 => 0
  | k + 1 => rpos s k + (Utf8.decode s (rpos s k)).2
theorem rpos_lt (s : ByteArray) (k : Nat) : rpos s k < rpos s (k + 1) := by
  have := dc_pos s (rpos s k); rw [rpos]; omega
theorem rpos_mono (s : ByteArray) {i j : Nat} (h : i ≤ j) : rpos s i ≤ rpos s j := by
  induction h with
  | refl => exact Nat.le_refl _
  | step _ ih => exact Nat.le_trans ih (Nat.le_of_lt (rpos_lt s _))
theorem rpos_strict (s : ByteArray) {i j : Nat} (h : i < j) : rpos s i < rpos s j := Nat.lt_of_lt_of_le (rpos_lt s i) (rpos_mono s h)
theorem rpos_ge (s : ByteArray) : ∀ k, k ≤ rpos s k
  | 0 => Nat.zero_le _
  | k + 1 => by have := rpos_ge s k; have := rpos_lt s k; omega
def nRf (s : ByteArray) : Nat → Nat → Nat
  | 0, k => k
  | f + 1, k => if rpos s k < s.size then nRf s f (k + 1) else k
/-- how many code points -/
def nR (s : ByteArray) : Nat := nRf s s.size 0
theorem nRf_spec (s : ByteArray) : ∀ f k, k ≤ nRf s f k ∧ (∀ j, k ≤ j → j < nRf s f k → rpos s j < s.size) ∧ (s.size ≤ rpos s (nRf s f k) ∨ nRf s f k = k + f)
  | 0, k => ⟨Nat.le_refl _, fun j h1 h2 => by simp only [nRf] at h2; omega, .inr rfl⟩
  | f + 1, k => by
    obtain ⟨h1, h2, h3⟩ := nRf_spec s f (k + 1)
    rw [nRf]
    by_cases h : rpos s k < s.size
    · rw [if_pos h]
      refine ⟨by omega, fun j a b => ?_, by omega⟩
      rcases Nat.eq_or_lt_of_le a with rfl | a
      · exact h
      · exact h2 j a b
    · rw [if_neg h]
      exact ⟨Nat.le_refl _, fun j a b => by omega, .inl (by omega)⟩
theorem nR_end (s : ByteArray) : rpos s (nR s) = s.size := by
  obtain ⟨_, h2, h3⟩ := nRf_spec s s.size 0
  have hge : s.size ≤ rpos s (nR s) := by
    rcases h3 with h | h
    · exact h
    · have := rpos_ge s (nR s)
      have e : nR s = 0 + s.size := h
      omega
  have hle : rpos s (nR s) ≤ s.size := by
    rcases Nat.eq_zero_or_pos (nR s) with h | h
    · rw [h, rpos]; omega
    · obtain ⟨m, hm⟩ : ∃ m, nR s = m + 1 := ⟨nR s - 1, by omega⟩
      rw [hm, rpos]
      exact dc_in s _ (h2 m (by omega) (by show m < nR s; omega))
  omega
theorem nR_lt {s : ByteArray} {k : Nat} : k < nR s ↔ rpos s k < s.size := by
  rw [← nR_end s]
  constructor
  · exact rpos_strict s
  · intro h
    rcases Nat.lt_or_ge k (nR s) with h1 | h1
    · exact h1
    · have := rpos_mono s h1; omega
theorem nR_le (s : ByteArray) : nR s ≤ s.size := by have := rpos_ge s (nR s); rw [nR_end] at this; exact this
theorem nR_eq {s : ByteArray} {k : Nat} (h : rpos s k = s.size) : k = nR s := by
  rcases Nat.lt_trichotomy k (nR s) with h1 | h1 | h1
  · have := rpos_strict s h1; rw [nR_end] at this; omega
  · exact h1
  · have := rpos_strict s h1; rw [nR_end] at this; omega
def ptN (s : ByteArray) (k : Nat) : Int := ((Utf8.decode s (rpos s k)).1 : Int)
def ptsTo (s : ByteArray) (k : Nat) : List Int := (List.range k).map (ptN s)
def offsTo (s : ByteArray) (k : Nat) : List Int := (List.range k).map fun j => (rpos s j : Int)
def pts (s : ByteArray) : List Int := ptsTo s (nR s)
def offs (s : ByteArray) : List Int := offsTo s (nR s)
theorem ptsTo_succ (s : ByteArray) (k : Nat) : ptsTo s (k + 1) = ptsTo s k ++ [ptN s k] := by simp [ptsTo, List.range_succ]
theorem offsTo_succ (s : ByteArray) (k : Nat) : offsTo s (k + 1) = offsTo s k ++ [(rpos s k : Int)] := by simp [offsTo, List.range_succ]
theorem ptsTo_len (s : ByteArray) (k : Nat) : (ptsTo s k).length = k := by simp [ptsTo]
theorem offsTo_len (s : ByteArray) (k : Nat) : (offsTo s k).length = k := by simp [offsTo]
theorem pts_len (s : ByteArray) : (pts s).length = nR s := ptsTo_len _ _
theorem offs_len (s : ByteArray) : (offs s).length = nR s := offsTo_len _ _
def BadAt (s : ByteArray) (p : Nat) : Prop := (Utf8.decode s p).1 = 65533 ∧ (Utf8.decode s p).2 = 1
instance (s : ByteArray) (p : Nat) : Decidable (BadAt s p) := by unfold BadAt; infer_instance
def okS (s : ByteArray) : Bool := decide (∀ k, k < nR s → ¬ BadAt s (rpos s k))
theorem okS_valid (s : ByteArray) : Lib.validD s.data.toList = okS s := by
  have key : ∀ d k, k + d = nR s → (Lib.validD (s.data.toList.drop (rpos s k)) = true ↔ ∀ j, k ≤ j → j < nR s → ¬ BadAt s (rpos s j)) := by
    intro d
    induction d with
    | zero =>
      intro k h
      have : s.data.toList.drop (rpos s k) = [] := List.drop_eq_nil_of_le (by rw [← Lib.size_eq, show k = nR s by omega, nR_end]; omega)
      rw [this]
      exact ⟨fun _ j a b => by omega, fun _ => rfl⟩
    | succ d ih =>
      intro k h
      have hlt : rpos s k < s.size := nR_lt.1 (by omega)
      have hne : s.data.toList.drop (rpos s k) ≠ [] := fun e => by
        have := congrArg List.length e
        rw [List.length_drop, ← Lib.size_eq] at this
        simp at this; omega
      have ih := ih (k + 1) (by omega)
      rw [Lib.validD_step _ hne, Lib.decodeL_drop, List.drop_drop, ← rpos]
      by_cases hb : BadAt s (rpos s k)
      · rw [if_pos (show _ ∧ _ from hb)]
        exact ⟨fun h => (by cases h), fun h2 => absurd hb (h2 k (Nat.le_refl _) (by omega))⟩
      · rw [if_neg (show ¬ (_ ∧ _) from hb)]
        rw [show rpos s k.succ = rpos s (k + 1) from rfl, ih]
        constructor
        · intro h2 j a b
          rcases Nat.eq_or_lt_of_le a with rfl | a
          · exact hb
          · exact h2 j a b
        · exact fun h2 j a b => h2 j (by omega) b
  have h := key (nR s) 0 (by omega)
  rw [rpos, List.drop_zero] at h
  unfold okS
  cases hv : Lib.validD s.data.toList with
  | true => exact (decide_eq_true (fun k hk => (h.1 hv) k (Nat.zero_le _) hk)).symm
  | false =>
    refine (decide_eq_false fun h2 => ?_).symm
    rw [h.2 (fun j _ b => h2 j b)] at hv
    cases hv
theorem okS_false {s : ByteArray} {k : Nat} (hk : rpos s k < s.size) (hb : BadAt s (rpos s k)) : okS s = false := decide_eq_false fun h => h k (nR_lt.2 hk) hb
/-! ### one step of the reference's decoder -/
def shN (b : Int) : Int := if b < 128 then 1 else if 194 ≤ b ∧ b ≤ 223 then 2 else if 224 ≤ b ∧ b ≤ 239 then 3 else if 240 ≤ b ∧ b ≤ 244 then 4 else 0
def shB (b : Int) : Int := if b < 128 then b else if 194 ≤ b ∧ b ≤ 223 then b - 192 else if 224 ≤ b ∧ b ≤ 239 then b - 224 else if 240 ≤ b ∧ b ≤ 244 then b - 240 else 0
def accR (s : ByteArray) (a : Nat) : Nat → Int
  | 0 => 0
  | 1 => shB (byt s a)
  | i + 2 => 64 * accR s a (i + 1) + byt s (a + i + 1) - 128
def leastL : List Int := [0, 0, 128, 2048, 65536]
def ConT (s : ByteArray) (a : Nat) (n : Int) : Prop := ∀ j : Nat, 1 ≤ j → (j : Int) < n → 128 ≤ byt s (a + j) ∧ byt s (a + j) ≤ 191
def PtBad (p n : Int) : Prop := p < iAt leastL n ∨ p > 1114111 ∨ (p ≥ 55296 ∧ p ≤ 57343)
instance (p n : Int) : Decidable (PtBad p n) := by unfold PtBad; infer_instance
theorem shN_cases (b : Int) : shN b = 0 ∨ shN b = 1 ∨ shN b = 2 ∨ shN b = 3 ∨ shN b = 4 := by
  unfold shN; repeat' split
  all_goals simp
theorem step_none (s : ByteArray) (a : Nat) (ha : a < s.size) (h : shN (byt s a) = 0 ∨ (a : Int) + shN (byt s a) > s.size) : BadAt s a := by
  have h0 := byt_lt s a
  unfold BadAt
  rw [dc_N]
  unfold shN at h
  unfold Lib.decodeN
  (repeat' split at h) <;> (repeat' split) <;> first | exact ⟨rfl, rfl⟩ | (exfalso; omega)
theorem step_cont (s : ByteArray) (a i : Nat) (h1 : 1 ≤ i) (h2 : (i : Int) < shN (byt s a)) (hc : byt s (a + i) < 128 ∨ byt s (a + i) > 191) : BadAt s a := by
  have h0 := byt_lt s a
  have hi := byt_lt s (a + i)
  unfold BadAt
  rw [dc_N]
  have hi3 : i = 1 ∨ i = 2 ∨ i = 3 := by rcases shN_cases (byt s a) with h | h | h | h | h <;> omega
  unfold shN at h2
  unfold Lib.decodeN
  rcases hi3 with rfl | rfl | rfl <;> (repeat' split at h2) <;> (repeat' split) <;> first | exact ⟨rfl, rfl⟩ | (exfalso; omega)
theorem accR1 (s : ByteArray) (a : Nat) : accR s a 1 = shB (byt s a) := rfl
theorem accR2 (s : ByteArray) (a : Nat) : accR s a 2 = 64 * shB (byt s a) + byt s (a + 1) - 128 := rfl
theorem accR3 (s : ByteArray) (a : Nat) : accR s a 3 = 64 * (64 * shB (byt s a) + byt s (a + 1) - 128) + byt s (a + 2) - 128 := rfl
theorem accR4 (s : ByteArray) (a : Nat) : accR s a 4 = 64 * (64 * (64 * shB (byt s a) + byt s (a + 1) - 128) + byt s (a + 2) - 128) + byt s (a + 3) - 128 := rfl
theorem accR_range (s : ByteArray) (a : Nat) (i : Nat) (h1 : 1 ≤ i) (h2 : (i : Int) ≤ shN (byt s a)) (hc : ConT s a i) : 0 ≤ accR s a i ∧ accR s a i ≤ 10000000 := by
  have h0 := byt_lt s a
  have hs : 0 ≤ shB (byt s a) ∧ shB (byt s a) ≤ 127 ∧ (1 < shN (byt s a) → shB (byt s a) ≤ 31) := by
    unfold shB shN; repeat' split
    all_goals omega
  have hi : i = 1 ∨ i = 2 ∨ i = 3 ∨ i = 4 := by rcases shN_cases (byt s a) with h | h | h | h | h <;> omega
  have c1 := fun h => hc 1 (by omega) h
  have c2 := fun h => hc 2 (by omega) h
  have c3 := fun h => hc 3 (by omega) h
  rcases hi with rfl | rfl | rfl | rfl
  · rw [accR1]; omega
  · have := c1 (by omega); rw [accR2]; omega
  · have := c1 (by omega); have := c2 (by omega); rw [accR3]; omega
  · have := c1 (by omega); have := c2 (by omega); have := c3 (by omega); rw [accR4]; omega
set_option maxHeartbeats 1000000 in
theorem step_full (s : ByteArray) (a : Nat) (n : Nat) (hn : shN (byt s a) = n) (h1 : 1 ≤ n) (hin : a + n ≤ s.size) (hc : ConT s a n) :
    (PtBad (accR s a n) n → BadAt s a) ∧ (¬ PtBad (accR s a n) n → ¬ BadAt s a ∧ ((Utf8.decode s a).1 : Int) = accR s a n ∧ (Utf8.decode s a).2 = n) := by
  have h0 := byt_lt s a
  have hi : n = 1 ∨ n = 2 ∨ n = 3 ∨ n = 4 := by rcases shN_cases (byt s a) with h | h | h | h | h <;> omega
  have hs : ((byt s a : Int) < 128 ∧ n = 1 ∧ shB (byt s a) = byt s a) ∨ (194 ≤ (byt s a : Int) ∧ (byt s a : Int) ≤ 223 ∧ n = 2 ∧ shB (byt s a) = byt s a - 192) ∨ (224 ≤ (byt s a : Int) ∧ (byt s a : Int) ≤ 239 ∧ n = 3 ∧ shB (byt s a) = byt s a - 224) ∨ (240 ≤ (byt s a : Int) ∧ (byt s a : Int) ≤ 244 ∧ n = 4 ∧ shB (byt s a) = byt s a - 240) := by
    unfold shN at hn
    unfold shB
    by_cases q1 : (byt s a : Int) < 128
    · rw [if_pos q1] at hn; rw [if_pos q1]; exact .inl ⟨q1, by omega, rfl⟩
    · rw [if_neg q1] at hn; rw [if_neg q1]
      by_cases q2 : 194 ≤ (byt s a : Int) ∧ (byt s a : Int) ≤ 223
      · rw [if_pos q2] at hn; rw [if_pos q2]; exact .inr (.inl ⟨q2.1, q2.2, by omega, rfl⟩)
      · rw [if_neg q2] at hn; rw [if_neg q2]
        by_cases q3 : 224 ≤ (byt s a : Int) ∧ (byt s a : Int) ≤ 239
        · rw [if_pos q3] at hn; rw [if_pos q3]; exact .inr (.inr (.inl ⟨q3.1, q3.2, by omega, rfl⟩))
        · rw [if_neg q3] at hn; rw [if_neg q3]
          by_cases q4 : 240 ≤ (byt s a : Int) ∧ (byt s a : Int) ≤ 244
          · rw [if_pos q4] at hn; rw [if_pos q4]; exact .inr (.inr (.inr ⟨q4.1, q4.2, by omega, rfl⟩))
          · rw [if_neg q4] at hn; omega
  have c1 := fun h => hc 1 (by omega) h
  have c2 := fun h => hc 2 (by omega) h
  have c3 := fun h => hc 3 (by omega) h
  clear hn hc
  have l1 : iAt leastL 1 = 0 := rfl
  have l2 : iAt leastL 2 = 128 := rfl
  have l3 : iAt leastL 3 = 2048 := rfl
  have l4 : iAt leastL 4 = 65536 := rfl
  unfold BadAt PtBad
  rw [dc_N]
  rcases hs with ⟨b1, rfl, e⟩ | ⟨b1, b2, rfl, e⟩ | ⟨b1, b2, rfl, e⟩ | ⟨b1, b2, rfl, e⟩
  · rw [accR1, e, show ((1 : Nat) : Int) = 1 from rfl, l1]
    unfold Lib.decodeN
    rw [if_pos (by omega)]
    exact ⟨fun h => by omega, fun h => ⟨fun h => by omega, rfl, rfl⟩⟩
  · have k1 := c1 (by omega)
    rw [accR2, e, show ((2 : Nat) : Int) = 2 from rfl, l2]
    unfold Lib.decodeN
    rw [if_neg (by omega), if_pos (by omega)]
    split
    · exact ⟨fun h => by omega, fun h => ⟨fun h => by simp at h, by simp only; omega, rfl⟩⟩
    · exact ⟨fun _ => ⟨rfl, rfl⟩, fun h => by omega⟩
  · have k1 := c1 (by omega)
    have k2 := c2 (by omega)
    rw [accR3, e, show ((3 : Nat) : Int) = 3 from rfl, l3]
    unfold Lib.decodeN
    rw [if_neg (by omega), if_neg (by omega), if_pos (by omega)]
    split
    · exact ⟨fun h => by omega, fun h => ⟨fun h => by simp at h, by simp only; omega, rfl⟩⟩
    · exact ⟨fun _ => ⟨rfl, rfl⟩, fun h => by omega⟩
  · have k1 := c1 (by omega)
    have k2 := c2 (by omega)
    have k3 := c3 (by omega)
    rw [accR4, e, show ((4 : Nat) : Int) = 4 from rfl, l4]
    unfold Lib.decodeN
    rw [if_neg (by omega), if_neg (by omega), if_neg (by omega), if_pos (by omega)]
    split
    · exact ⟨fun h => by omega, fun h => ⟨fun h => by simp at h, by simp only; omega, rfl⟩⟩
    · exact ⟨fun _ => ⟨rfl, rfl⟩, fun h => by omega⟩
end Go.Ob
