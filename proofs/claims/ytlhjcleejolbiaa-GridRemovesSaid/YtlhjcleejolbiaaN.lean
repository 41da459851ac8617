import Derived.Test.YtlhjcleejolbiaaS
import Derived.Test.YtlhjcleejolbiaaObT
set_option linter.unusedVariables false
set_option linter.unusedSimpArgs false
namespace Go.Ob
open Go.Proofs
/-! ### the first index of several -/
def firstIdx (p : Int → Bool) : Nat → Int
  | 0 => -1
  | n + 1 => if 0 ≤ firstIdx p n then firstIdx p n else if p n = true then n else -1
theorem firstIdx_none {p : Int → Bool} : ∀ {n : Nat}, (∀ j : Int, 0 ≤ j → j < n → p j = false) → firstIdx p n = -1
  | 0, _ => rfl
  | n + 1, h => by
    have h1 := firstIdx_none (n := n) fun j a b => h j a (by omega)
    rw [firstIdx, if_neg (by omega), if_neg (by rw [h n (by omega) (by omega)]; simp)]
theorem firstIdx_at {p : Int → Bool} {i : Int} (h0 : 0 ≤ i) (hp : p i = true) (hz : ∀ j : Int, 0 ≤ j → j < i → p j = false) : ∀ {n : Nat}, i < n → firstIdx p n = i
  | 0, h => by omega
  | n + 1, h => by
    by_cases hi : i < n
    · have h1 := firstIdx_at h0 hp hz hi
      rw [firstIdx, if_pos (by omega), h1]
    · have h1 := firstIdx_none (p := p) (n := n) fun j a b => hz j a (by omega)
      rw [firstIdx, if_neg (by omega), if_pos (by rw [show (n : Int) = i by omega]; exact hp)]
      omega
theorem firstIdx_spec (p : Int → Bool) : ∀ (n : Nat), (firstIdx p n = -1 ∧ ∀ j : Int, 0 ≤ j → j < n → p j = false) ∨ (0 ≤ firstIdx p n ∧ firstIdx p n < n ∧ p (firstIdx p n) = true ∧ ∀ j : Int, 0 ≤ j → j < firstIdx p n → p j = false)
  | 0 => .inl ⟨rfl, fun j a b => by omega⟩
  | n + 1 => by
    rcases firstIdx_spec p n with ⟨h1, h2⟩ | ⟨h1, h2, h3, h4⟩
    · rw [firstIdx, if_neg (by omega)]
      by_cases hp : p n = true
      · rw [if_pos hp]
        exact .inr ⟨by omega, by omega, hp, h2⟩
      · rw [if_neg hp]
        refine .inl ⟨rfl, fun j a b => ?_⟩
        rcases Int.lt_or_eq_of_le (show j ≤ n by omega) with h | h
        · exact h2 j a h
        · rw [h]; simpa using hp
    · rw [firstIdx, if_pos h1]
      exact .inr ⟨h1, by omega, h3, h4⟩
/-! ### the spans of a row -/
theorem spTo_mono1 (r : RowD) (i : Int) (h0 : 0 ≤ i) (h1 : i < r.cells.length) : spTo r i ≤ spTo r (i + 1) := by
  have h := sp_range r i h0 (by omega)
  rw [spTo_succ r i h0, sAt_step r i h0 h1]
  dsimp only
  unfold spanN
  omega
theorem spTo_monoD (r : RowD) (i : Int) (h0 : 0 ≤ i) : ∀ (d : Nat), i + d ≤ r.cells.length → spTo r i ≤ spTo r (i + d)
  | 0, _ => by simp
  | d + 1, h => by
    have h1 := spTo_monoD r i h0 d (by omega)
    have h2 := spTo_mono1 r (i + d) (by omega) (by omega)
    rw [show i + ((d + 1 : Nat) : Int) = i + d + 1 by omega]
    omega
theorem sAt_eq (r : RowD) (i : Int) (h0 : 0 ≤ i) (h1 : i < r.cells.length) : sAt (spansR r) i = (spTo r i, spTo r (i + 1)) := by
  rw [spTo_succ r i h0, sAt_step r i h0 h1]
theorem sAt_le (r : RowD) (i : Int) (h0 : 0 ≤ i) (h1 : i < r.cells.length) : 0 ≤ (sAt (spansR r) i).1 ∧ (sAt (spansR r) i).1 ≤ (sAt (spansR r) i).2 ∧ (sAt (spansR r) i).2 ≤ 32 := by
  rw [sAt_eq r i h0 h1]
  exact ⟨(sp_range r i h0 (by omega)).1, spTo_mono1 r i h0 h1, (sp_range r (i + 1) (by omega) (by omega)).2⟩
theorem sAt_col {r : RowD} {j k c : Int} (h0 : 0 ≤ j) (h1 : j < r.cells.length) (h2 : 0 ≤ k) (h3 : k < r.cells.length) (a : (sAt (spansR r) j).1 ≤ c) (b : c < (sAt (spansR r) j).2) (d : (sAt (spansR r) k).1 ≤ c) (e : c < (sAt (spansR r) k).2) : j = k := by
  rw [sAt_eq r j h0 h1] at a b
  rw [sAt_eq r k h2 h3] at d e
  dsimp only at a b d e
  rcases Int.lt_trichotomy j k with h | h | h
  · have := spTo_monoD r (j + 1) (by omega) (k - (j + 1)).toNat (by omega)
    rw [show j + 1 + ((k - (j + 1)).toNat : Int) = k by omega] at this
    omega
  · exact h
  · have := spTo_monoD r (k + 1) (by omega) (j - (k + 1)).toNat (by omega)
    rw [show k + 1 + ((j - (k + 1)).toNat : Int) = j by omega] at this
    omega
theorem sAt_inj {r : RowD} {j k : Int} (h0 : 0 ≤ j) (h1 : j < r.cells.length) (h2 : 0 ≤ k) (h3 : k < r.cells.length) (he : sAt (spansR r) j = sAt (spansR r) k) (hn : (sAt (spansR r) k).1 ≠ (sAt (spansR r) k).2) : j = k := by
  have := sAt_le r k h2 h3
  exact sAt_col (c := (sAt (spansR r) k).1) h0 h1 h2 h3 (by rw [he]; omega) (by rw [he]; omega) (by omega) (by omega)
/-! ### the cell with such columns; does a cell continue; the rectangle of a cell -/
def sameN (r : RowD) (f t : Int) : Int := firstIdx (fun k => decide ((sAt (spansR r) k).1 = f ∧ (sAt (spansR r) k).2 = t ∧ (sAt (spansR r) k).1 < (sAt (spansR r) k).2)) r.cells.length
def atN (r : RowD) (c : Int) : Int := firstIdx (fun k => decide ((sAt (spansR r) k).1 ≤ c ∧ c < (sAt (spansR r) k).2)) r.cells.length
def mgN (rs : List RowD) (i k : Int) : Int := getP (cAt (rAt rs i).cells k).props 61 0
def spN (rs : List RowD) (i k : Int) : Int × Int := sAt (spansR (rAt rs i)) k
def ncN (rs : List RowD) (i : Int) : Nat := (rAt rs i).cells.length
/-- a cell with columns -/
def Val (rs : List RowD) (i k : Int) : Prop := 0 ≤ i ∧ i < rs.length ∧ 0 ≤ k ∧ k < ncN rs i ∧ (spN rs i k).1 ≠ (spN rs i k).2
theorem Val.lt {rs : List RowD} {i k : Int} (h : Val rs i k) : (spN rs i k).1 < (spN rs i k).2 := by
  obtain ⟨_, _, h0, h1, hn⟩ := h
  have := sAt_le (rAt rs i) k h0 h1
  unfold spN at *
  omega
theorem Val.inj {rs : List RowD} {i j k : Int} (h : Val rs i j) (h2 : Val rs i k) (he : spN rs i j = spN rs i k) : j = k := sAt_inj h.2.2.1 h.2.2.2.1 h2.2.2.1 h2.2.2.2.1 he h2.2.2.2.2
theorem sameN_val {rs : List RowD} {i k : Int} (h : Val rs i k) : sameN (rAt rs i) (spN rs i k).1 (spN rs i k).2 = k := by
  refine firstIdx_at h.2.2.1 ?_ (fun j a b => ?_) h.2.2.2.1
  · have := h.lt
    unfold spN at *
    simp [this]
  · rw [decide_eq_false_iff_not]
    rintro ⟨h1, h2, h3⟩
    have h4 : j < ncN rs i := by have := h.2.2.2.1; omega
    have := Val.inj (rs := rs) (i := i) (j := j) (k := k) ⟨h.1, h.2.1, a, h4, by show (sAt (spansR (rAt rs i)) j).1 ≠ _; unfold spN; omega⟩ h (Prod.ext h1 h2)
    omega
theorem sameN_of {rs : List RowD} {i : Int} {s : Int × Int} (h0 : 0 ≤ i) (h1 : i < rs.length) (h : 0 ≤ sameN (rAt rs i) s.1 s.2) : Val rs i (sameN (rAt rs i) s.1 s.2) ∧ spN rs i (sameN (rAt rs i) s.1 s.2) = s := by
  rcases firstIdx_spec (fun k => decide ((sAt (spansR (rAt rs i)) k).1 = s.1 ∧ (sAt (spansR (rAt rs i)) k).2 = s.2 ∧ (sAt (spansR (rAt rs i)) k).1 < (sAt (spansR (rAt rs i)) k).2)) (rAt rs i).cells.length with ⟨a, _⟩ | ⟨_, b, c, _⟩
  · have : sameN (rAt rs i) s.1 s.2 = -1 := a
    omega
  · have c' := of_decide_eq_true c
    exact ⟨⟨h0, h1, h, b, fun he => by have := c'.2.2; unfold spN sameN at he; omega⟩, Prod.ext c'.1 c'.2.1⟩
theorem sameN_none {rs : List RowD} {i : Int} {s : Int × Int} (h : ¬ 0 ≤ sameN (rAt rs i) s.1 s.2) {k : Int} (hv : Val rs i k) : spN rs i k ≠ s := by
  rintro rfl
  rw [sameN_val hv] at h
  exact h hv.2.2.1
/-- the cell k of row i continues the one above it -/
def contB (rs : List RowD) (i k : Int) : Bool :=
  decide (i ≠ 0 ∧ (spN rs i k).1 ≠ (spN rs i k).2 ∧ mgN rs i k = 2 ∧ 0 ≤ sameN (rAt rs (i - 1)) (spN rs i k).1 (spN rs i k).2 ∧
    (mgN rs (i - 1) (sameN (rAt rs (i - 1)) (spN rs i k).1 (spN rs i k).2) = 1 ∨ mgN rs (i - 1) (sameN (rAt rs (i - 1)) (spN rs i k).1 (spN rs i k).2) = 2))
/-- row i continues columns s of the row above it -/
def CS (rs : List RowD) (s : Int × Int) (i : Int) : Prop :=
  ∃ k k', Val rs i k ∧ spN rs i k = s ∧ mgN rs i k = 2 ∧ Val rs (i - 1) k' ∧ spN rs (i - 1) k' = s ∧ (mgN rs (i - 1) k' = 1 ∨ mgN rs (i - 1) k' = 2)
theorem contB_iff {rs : List RowD} {i k : Int} (h : Val rs i k) : contB rs i k = true ↔ CS rs (spN rs i k) i := by
  unfold contB
  rw [decide_eq_true_eq]
  constructor
  · rintro ⟨h1, h2, h3, h4, h5⟩
    obtain ⟨a, b⟩ := sameN_of (rs := rs) (i := i - 1) (s := spN rs i k) (by have := h.1; omega) (by have := h.2.1; omega) h4
    exact ⟨k, _, h, rfl, h3, a, b, h5⟩
  · rintro ⟨k1, k', a, b, c, d, e, f⟩
    obtain rfl := Val.inj a h b
    have hs := sameN_val d
    rw [e] at hs
    exact ⟨by have := d.1; omega, h.2.2.2.2, c, by rw [hs]; exact d.2.2.1, by rw [hs]; exact f⟩
def csB (rs : List RowD) (s : Int × Int) (i : Int) : Bool := decide (0 ≤ sameN (rAt rs i) s.1 s.2) && contB rs i (sameN (rAt rs i) s.1 s.2)
theorem csB_iff {rs : List RowD} {s : Int × Int} {i : Int} (h0 : 0 ≤ i) (h1 : i < rs.length) : csB rs s i = true ↔ CS rs s i := by
  unfold csB
  rw [Bool.and_eq_true, decide_eq_true_eq]
  constructor
  · rintro ⟨a, b⟩
    obtain ⟨c, d⟩ := sameN_of h0 h1 a
    rw [contB_iff c, d] at b
    exact b
  · rintro h
    obtain ⟨k, k', a, b, _⟩ := id h
    have hs := sameN_val a
    rw [b] at hs
    rw [hs]
    exact ⟨a.2.2.1, (contB_iff a).2 (by rw [b]; exact h)⟩
def topN (rs : List RowD) (s : Int × Int) : Nat → Nat
  | 0 => 0
  | i + 1 => if csB rs s ((i + 1 : Nat) : Int) = true then topN rs s i else i + 1
def botN (rs : List RowD) (s : Int × Int) : Nat → Nat → Nat
  | i, 0 => i
  | i, d + 1 => if csB rs s (i : Int) = true then botN rs s (i + 1) d else i
theorem topN_spec (rs : List RowD) (s : Int × Int) : ∀ (i : Nat), i < rs.length → topN rs s i ≤ i ∧ (∀ j : Int, topN rs s i < j → j ≤ i → CS rs s j) ∧ ¬ CS rs s (topN rs s i)
  | 0, _ => ⟨Nat.le_refl _, fun j a b => by simp only [topN] at a; omega, fun ⟨k, k', a, b, c, d, _⟩ => by have := d.1; simp [topN] at this⟩
  | i + 1, h => by
    have ih := topN_spec rs s i (by omega)
    rw [topN]
    split
    · rename_i hc
      have hc' := (csB_iff (by omega) (by omega)).1 hc
      refine ⟨by omega, fun j a b => ?_, ih.2.2⟩
      rcases Int.lt_or_eq_of_le b with h | h
      · exact ih.2.1 j a (by omega)
      · rw [h]; exact hc'
    · rename_i hc
      exact ⟨Nat.le_refl _, fun j a b => by omega, fun h' => hc ((csB_iff (by omega) (by omega)).2 h')⟩
theorem CS.lt {rs : List RowD} {s : Int × Int} {i : Int} (h : CS rs s i) : 1 ≤ i ∧ i < rs.length := by
  obtain ⟨k, k', a, b, c, d, _⟩ := h
  exact ⟨by have := d.1; omega, a.2.1⟩
theorem botN_spec (rs : List RowD) (s : Int × Int) : ∀ (d i : Nat), i + d = rs.length → i ≤ botN rs s i d ∧ (∀ j : Int, i ≤ j → j < botN rs s i d → CS rs s j) ∧ ¬ CS rs s (botN rs s i d) ∧ botN rs s i d ≤ rs.length
  | 0, i, h => ⟨Nat.le_refl _, fun j a b => by simp only [botN] at b; omega, fun hc => by have := hc.lt; simp only [botN] at this; omega, by simp only [botN]; omega⟩
  | d + 1, i, h => by
    have ih := botN_spec rs s d (i + 1) (by omega)
    rw [botN]
    split
    · rename_i hc
      have hc' := (csB_iff (by omega) (by omega)).1 hc
      refine ⟨by omega, fun j a b => ?_, ih.2.2⟩
      rcases Int.lt_or_eq_of_le a with h | h
      · exact ih.2.1 j (by omega) b
      · rw [← h]; exact hc'
    · rename_i hc
      exact ⟨Nat.le_refl _, fun j a b => by omega, fun h' => hc ((csB_iff (by omega) (by omega)).2 h'), by omega⟩
def rectN (rs : List RowD) (i k : Int) : R6 :=
  ⟨topN rs (spN rs i k) i.toNat, sameN (rAt rs (topN rs (spN rs i k) i.toNat)) (spN rs i k).1 (spN rs i k).2, topN rs (spN rs i k) i.toNat, (spN rs i k).1, botN rs (spN rs i k) (i.toNat + 1) (rs.length - (i.toNat + 1)), (spN rs i k).2⟩
def existsN (rs : List RowD) (i k : Int) : Prop := 0 ≤ i ∧ i < rs.length ∧ 0 ≤ k ∧ k < (rAt rs i).cells.length
instance (rs : List RowD) (i k : Int) : Decidable (existsN rs i k) := by unfold existsN; infer_instance
/-- what place returns -/
def placeR (rs : List RowD) (i k : Int) : R6 := if existsN rs i k ∧ (spN rs i k).1 ≠ (spN rs i k).2 then rectN rs i k else q0
def placeE (rs : List RowD) (i k : Int) : Int := if ¬ existsN rs i k then 2 else if (spN rs i k).1 = (spN rs i k).2 then 20 else 0
end Go.Ob
