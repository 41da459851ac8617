import Derived.Test.YtlhjcleejolbiaaS
import Derived.Test.YtlhjcleejolbiaaObT
set_option linter.unusedVariables false
set_option linter.unusedSimpArgs false
namespace Go.Ob
open Go.Proofs
/-! ### the first index of several -/
def firstIdx (p : Int → Bool) : Nat → Int
  | 0 => -1
  | n + 1 => if 0 ≤ firstIdx p n then firstIdx p n else if p n = true then n else -1
theorem firstIdx_none {p : Int → Bool} : ∀ {n : Nat}, (∀ j : Int, 0 ≤ j → j < n → p j = false) → firstIdx p n = -1
  | 0, _ => rfl
  | n + 1, h => by
    have h1 := firstIdx_none (n := n) fun j a b => h j a (by omega)
    rw [firstIdx, if_neg (by omega), if_neg (by rw [h n (by omega) (by omega)]; simp)]
theorem firstIdx_at {p : Int → Bool} {i : Int} (h0 : 0 ≤ i) (hp : p i = true) (hz : ∀ j : Int, 0 ≤ j → j < i → p j = false) : ∀ {n : Nat}, i < n → firstIdx p n = i
  | 0, h => by omega
  | n + 1, h => by
    by_cases hi : i < n
    · have h1 := firstIdx_at h0 hp hz hi
      rw [firstIdx, if_pos (by omega), h1]
    · have h1 := firstIdx_none (p := p) (n := n) fun j a b => hz j a (by omega)
      rw [firstIdx, if_neg (by omega), if_pos (by rw [show (n : Int) = i by omega]; exact hp)]
      omega
theorem firstIdx_spec (p : Int → Bool) : ∀ (n : Nat), (firstIdx p n = -1 ∧ ∀ j : Int, 0 ≤ j → j < n → p j = false) ∨ (0 ≤ firstIdx p n ∧ firstIdx p n < n ∧ p (firstIdx p n) = true ∧ ∀ j : Int, 0 ≤ j → j < firstIdx p n → p j = false)
  | 0 => .inl ⟨rfl, fun j a b => by omega⟩
  | n + 1 => by
    rcases firstIdx_spec p n with ⟨h1, h2⟩ | ⟨h1, h2, h3, h4⟩
    · rw [firstIdx, if_neg (by omega)]
      by_cases hp : p n = true
      · rw [if_pos hp]
        exact .inr ⟨by omega, by omega, hp, h2⟩
      · rw [if_neg hp]
        refine .inl ⟨rfl, fun j a b => ?_⟩
        rcases Int.lt_or_eq_of_le (show j ≤ n by omega) with h | h
        · exact h2 j a h
        · rw [h]; simpa using hp
    · rw [firstIdx, if_pos h1]
      exact .inr ⟨h1, by omega, h3, h4⟩
/-! ### the spans of a row -/
theorem spTo_mono1 (r : RowD) (i : Int) (h0 : 0 ≤ i) (h1 : i < r.cells.length) : spTo r i ≤ spTo r (i + 1) := by
  have h := sp_range r i h0 (by omega)
  rw [spTo_succ r i h0, sAt_step r i h0 h1]
  dsimp only
  unfold spanN
  omega
theorem spTo_monoD (r : RowD) (i : Int) (h0 : 0 ≤ i) : ∀ (d : Nat), i + d ≤ r.cells.length → spTo r i ≤ spTo r (i + d)
  | 0, _ => by simp
  | d + 1, h => by
    have h1 := spTo_monoD r i h0 d (by omega)
    have h2 := spTo_mono1 r (i + d) (by omega) (by omega)
    rw [show i + ((d + 1 : Nat) : Int) = i + d + 1 by omega]
    omega
theorem sAt_eq (r : RowD) (i : Int) (h0 : 0 ≤ i) (h1 : i < r.cells.length) : sAt (spansR r) i = (spTo r i, spTo r (i + 1)) := by
  rw [spTo_succ r i h0, sAt_step r i h0 h1]
theorem sAt_le (r : RowD) (i : Int) (h0 : 0 ≤ i) (h1 : i < r.cells.length) : 0 ≤ (sAt (spansR r) i).1 ∧ (sAt (spansR r) i).1 ≤ (sAt (spansR r) i).2 ∧ (sAt (spansR r) i).2 ≤ 32 := by
  rw [sAt_eq r i h0 h1]
  exact ⟨(sp_range r i h0 (by omega)).1, spTo_mono1 r i h0 h1, (sp_range r (i + 1) (by omega) (by omega)).2⟩
theorem sAt_col {r : RowD} {j k c : Int} (h0 : 0 ≤ j) (h1 : j < r.cells.length) (h2 : 0 ≤ k) (h3 : k < r.cells.length) (a : (sAt (spansR r) j).1 ≤ c) (b : c < (sAt (spansR r) j).2) (d : (sAt (spansR r) k).1 ≤ c) (e : c < (sAt (spansR r) k).2) : j = k := by
  rw [sAt_eq r j h0 h1] at a b
  rw [sAt_eq r k h2 h3] at d e
  dsimp only at a b d e
  rcases Int.lt_trichotomy j k with h | h | h
  · have := spTo_monoD r (j + 1) (by omega) (k - (j + 1)).toNat (by omega)
    rw [show j + 1 + ((k - (j + 1)).toNat : Int) = k by omega] at this
    omega
  · exact h
  · have := spTo_monoD r (k + 1) (by omega) (j - (k + 1)).toNat (by omega)
    rw [show k + 1 + ((j - (k + 1)).toNat : Int) = j by omega] at this
    omega
theorem sAt_inj {r : RowD} {j k : Int} (h0 : 0 ≤ j) (h1 : j < r.cells.length) (h2 : 0 ≤ k) (h3 : k < r.cells.length) (he : sAt (spansR r) j = sAt (spansR r) k) (hn : (sAt (spansR r) k).1 ≠ (sAt (spansR r) k).2) : j = k := by
  have := sAt_le r k h2 h3
  exact sAt_col (c := (sAt (spansR r) k).1) h0 h1 h2 h3 (by rw [he]; omega) (by rw [he]; omega) (by omega) (by omega)
/-! ### the cell with such columns; does a cell continue; the rectangle of a cell -/
def sameN (r : RowD) (f t : Int) : Int := firstIdx (fun k => decide ((sAt (spansR r) k).1 = f ∧ (sAt (spansR r) k).2 = t ∧ (sAt (spansR r) k).1 < (sAt (spansR r) k).2)) r.cells.length
def atN (r : RowD) (c : Int) : Int := firstIdx (fun k => decide ((sAt (spansR r) k).1 ≤ c ∧ c < (sAt (spansR r) k).2)) r.cells.length
def mgN (rs : List RowD) (i k : Int) : Int := getP (cAt (rAt rs i).cells k).props 61 0
def spN (rs : List RowD) (i k : Int) : Int × Int := sAt (spansR (rAt rs i)) k
def ncN (rs : List RowD) (i : Int) : Nat := (rAt rs i).cells.length
/-- a cell with columns -/
def Val (rs : List RowD) (i k : Int) : Prop := 0 ≤ i ∧ i < rs.length ∧ 0 ≤ k ∧ k < ncN rs i ∧ (spN rs i k).1 ≠ (spN rs i k).2
theorem Val.lt {rs : List RowD} {i k : Int} (h : Val rs i k) : (spN rs i k).1 < (spN rs i k).2 := by
  obtain ⟨_, _, h0, h1, hn⟩ := h
  have := sAt_le (rAt rs i) k h0 h1
  unfold spN at *
  omega
theorem Val.inj {rs : List RowD} {i j k : Int} (h : Val rs i j) (h2 : Val rs i k) (he : spN rs i j = spN rs i k) : j = k := sAt_inj h.2.2.1 h.2.2.2.1 h2.2.2.1 h2.2.2.2.1 he h2.2.2.2.2
theorem sameN_val {rs : List RowD} {i k : Int} (h : Val rs i k) : sameN (rAt rs i) (spN rs i k).1 (spN rs i k).2 = k := by
  refine firstIdx_at h.2.2.1 ?_ (fun j a b => ?_) h.2.2.2.1
  · have := h.lt
    unfold spN at *
    simp [this]
  · rw [decide_eq_false_iff_not]
    rintro ⟨h1, h2, h3⟩
    have h4 : j < ncN rs i := by have := h.2.2.2.1; omega
    have := Val.inj (rs := rs) (i := i) (j := j) (k := k) ⟨h.1, h.2.1, a, h4, by show (sAt (spansR (rAt rs i)) j).1 ≠ _; unfold spN; omega⟩ h (Prod.ext h1 h2)
    omega
theorem sameN_of {rs : List RowD} {i : Int} {s : Int × Int} (h0 : 0 ≤ i) (h1 : i < rs.length) (h : 0 ≤ sameN (rAt rs i) s.1 s.2) : Val rs i (sameN (rAt rs i) s.1 s.2) ∧ spN rs i (sameN (rAt rs i) s.1 s.2) = s := by
  rcases firstIdx_spec (fun k => decide ((sAt (spansR (rAt rs i)) k).1 = s.1 ∧ (sAt (spansR (rAt rs i)) k).2 = s.2 ∧ (sAt (spansR (rAt rs i)) k).1 < (sAt (spansR (rAt rs i)) k).2)) (rAt rs i).cells.length with ⟨a, _⟩ | ⟨_, b, c, _⟩
  · have : sameN (rAt rs i) s.1 s.2 = -1 := a
    omega
  · have c' := of_decide_eq_true c
    exact ⟨⟨h0, h1, h, b, fun he => by have := c'.2.2; unfold spN sameN at he; omega⟩, Prod.ext c'.1 c'.2.1⟩
theorem sameN_none {rs : List RowD} {i : Int} {s : Int × Int} (h : ¬ 0 ≤ sameN (rAt rs i) s.1 s.2) {k : Int} (hv : Val rs i k) : spN rs i k ≠ s := by
  rintro rfl
  rw [sameN_val hv] at h
  exact h hv.2.2.1
/-- the cell k of row i continues the one above it -/
def contB (rs : List RowD) (i k : Int) : Bool :=
  decide (i ≠ 0 ∧ (spN rs i k).1 ≠ (spN rs i k).2 ∧ mgN rs i k = 2 ∧ 0 ≤ sameN (rAt rs (i - 1)) (spN rs i k).1 (spN rs i k).2 ∧
    (mgN rs (i - 1) (sameN (rAt rs (i - 1)) (spN rs i k).1 (spN rs i k).2) = 1 ∨ mgN rs (i - 1) (sameN (rAt rs (i - 1)) (spN rs i k).1 (spN rs i k).2) = 2))
/-- row i continues columns s of the row above it -/
def CS (rs : List RowD) (s : Int × Int) (i : Int) : Prop :=
  ∃ k k', Val rs i k ∧ spN rs i k = s ∧ mgN rs i k = 2 ∧ Val rs (i - 1) k' ∧ spN rs (i - 1) k' = s ∧ (mgN rs (i - 1) k' = 1 ∨ mgN rs (i - 1) k' = 2)
theorem contB_iff {rs : List RowD} {i k : Int} (h : Val rs i k) : contB rs i k = true ↔ CS rs (spN rs i k) i := by
  unfold contB
  rw [decide_eq_true_eq]
  constructor
  · rintro ⟨h1, h2, h3, h4, h5⟩
    obtain ⟨a, b⟩ := sameN_of (rs := rs) (i := i - 1) (s := spN rs i k) (by have := h.1; omega) (by have := h.2.1; omega) h4
    exact ⟨k, _, h, rfl, h3, a, b, h5⟩
  · rintro ⟨k1, k', a, b, c, d, e, f⟩
    obtain rfl := Val.inj a h b
    have hs := sameN_val d
    rw [e] at hs
    exact ⟨by have := d.1; omega, h.2.2.2.2, c, by rw [hs]; exact d.2.2.1, by rw [hs]; exact f⟩
def csB (rs : List RowD) (s : Int × Int) (i : Int) : Bool := decide (0 ≤ sameN (rAt rs i) s.1 s.2) && contB rs i (sameN (rAt rs i) s.1 s.2)
theorem csB_iff {rs : List RowD} {s : Int × Int} {i : Int} (h0 : 0 ≤ i) (h1 : i < rs.length) : csB rs s i = true ↔ CS rs s i := by
  unfold csB
  rw [Bool.and_eq_true, decide_eq_true_eq]
  constructor
  · rintro ⟨a, b⟩
    obtain ⟨c, d⟩ := sameN_of h0 h1 a
    rw [contB_iff c, d] at b
    exact b
  · rintro h
    obtain ⟨k, k', a, b, _⟩ := id h
    have hs := sameN_val a
    rw [b] at hs
    rw [hs]
    exact ⟨a.2.2.1, (contB_iff a).2 (by rw [b]; exact h)⟩
def topN (rs : List RowD) (s : Int × Int) : Nat → Nat
  | 0 => 0
  | i + 1 => if csB rs s ((i + 1 : Nat) : Int) = true then topN rs s i else i + 1
def botN (rs : List RowD) (s : Int × Int) : Nat → Nat → Nat
  | i, 0 => i
  | i, d + 1 => if csB rs s (i : Int) = true then botN rs s (i + 1) d else i
theorem topN_spec (rs : List RowD) (s : Int × Int) : ∀ (i : Nat), i < rs.length → topN rs s i ≤ i ∧ (∀ j : Int, topN rs s i < j → j ≤ i → CS rs s j) ∧ ¬ CS rs s (topN rs s i)
  | 0, _ => ⟨Nat.le_refl _, fun j a b => by simp only [topN] at a; omega, fun ⟨k, k', a, b, c, d, _⟩ => by have := d.1; simp [topN] at this⟩
  | i + 1, h => by
    have ih := topN_spec rs s i (by omega)
    rw [topN]
    split
    · rename_i hc
      have hc' := (csB_iff (by omega) (by omega)).1 hc
      refine ⟨by omega, fun j a b => ?_, ih.2.2⟩
      rcases Int.lt_or_eq_of_le b with h | h
      · exact ih.2.1 j a (by omega)
      · rw [h]; exact hc'
    · rename_i hc
      exact ⟨Nat.le_refl _, fun j a b => by omega, fun h' => hc ((csB_iff (by omega) (by omega)).2 h')⟩
theorem CS.lt {rs : List RowD} {s : Int × Int} {i : Int} (h : CS rs s i) : 1 ≤ i ∧ i < rs.length := by
  obtain ⟨k, k', a, b, c, d, _⟩ := h
  exact ⟨by have := d.1; omega, a.2.1⟩
theorem botN_spec (rs : List RowD) (s : Int × Int) : ∀ (d i : Nat), i + d = rs.length → i ≤ botN rs s i d ∧ (∀ j : Int, i ≤ j → j < botN rs s i d → CS rs s j) ∧ ¬ CS rs s (botN rs s i d) ∧ botN rs s i d ≤ rs.length
  | 0, i, h => ⟨Nat.le_refl _, fun j a b => by simp only [botN] at b; omega, fun hc => by have := hc.lt; simp only [botN] at this; omega, by simp only [botN]; omega⟩
  | d + 1, i, h => by
    have ih := botN_spec rs s d (i + 1) (by omega)
    rw [botN]
    split
    · rename_i hc
      have hc' := (csB_iff (by omega) (by omega)).1 hc
      refine ⟨by omega, fun j a b => ?_, ih.2.2⟩
      rcases Int.lt_or_eq_of_le a with h | h
      · exact ih.2.1 j (by omega) b
      · rw [← h]; exact hc'
    · rename_i hc
      exact ⟨Nat.le_refl _, fun j a b => by omega, fun h' => hc ((csB_iff (by omega) (by omega)).2 h'), by omega⟩
def rectN (rs : List RowD) (i k : Int) : R6 :=
  ⟨topN rs (spN rs i k) i.toNat, sameN (rAt rs (topN rs (spN rs i k) i.toNat)) (spN rs i k).1 (spN rs i k).2, topN rs (spN rs i k) i.toNat, (spN rs i k).1, botN rs (spN rs i k) (i.toNat + 1) (rs.length - (i.toNat + 1)), (spN rs i k).2⟩
def existsN (rs : List RowD) (i k : Int) : Prop := 0 ≤ i ∧ i < rs.length ∧ 0 ≤ k ∧ k < (rAt rs i).cells.length
instance (rs : List RowD) (i k : Int) : Decidable (existsN rs i k) := by unfold existsN; infer_instance
/-- what place returns -/
def placeR (rs : List RowD) (i k : Int) : R6 := if existsN rs i k ∧ (spN rs i k).1 ≠ (spN rs i k).2 then rectN rs i k else q0
def placeE (rs : List RowD) (i k : Int) : Int := if ¬ existsN rs i k then 2 else if (spN rs i k).1 = (spN rs i k).2 then 20 else 0
end Go.Ob
set_option linter.unusedVariables false
set_option linter.unusedSimpArgs false
namespace Go.Ob
open Go.Proofs
/-! ### the cells that start a rectangle -/
def stB (rs : List RowD) (i k : Int) : Bool := decide ((spN rs i k).1 ≠ (spN rs i k).2) && !contB rs i k
def startsC (rs : List RowD) (i : Nat) : Nat → List (Int × Int)
  | 0 => []
  | k + 1 => startsC rs i k ++ (if stB rs i k = true then [((i : Int), (k : Int))] else [])
def startsR (rs : List RowD) : Nat → List (Int × Int)
  | 0 => []
  | i + 1 => startsR rs i ++ startsC rs i (ncN rs i)
theorem startsC_mem {rs : List RowD} {i : Nat} : ∀ {k : Nat} {p : Int × Int}, p ∈ startsC rs i k → p.1 = i ∧ 0 ≤ p.2 ∧ p.2 < k ∧ stB rs i p.2 = true
  | 0, p, h => by simp [startsC] at h
  | k + 1, p, h => by
    rw [startsC, List.mem_append] at h
    rcases h with h | h
    · have := startsC_mem h; exact ⟨this.1, this.2.1, by omega, this.2.2.2⟩
    · split at h
      · rename_i hs
        obtain rfl : p = ((i : Int), (k : Int)) := by simpa using h
        exact ⟨rfl, by simp only; omega, by simp only; omega, hs⟩
      · cases h
theorem startsR_mem {rs : List RowD} : ∀ {i : Nat} {p : Int × Int}, p ∈ startsR rs i → 0 ≤ p.1 ∧ p.1 < i
  | 0, p, h => by simp [startsR] at h
  | i + 1, p, h => by
    rw [startsR, List.mem_append] at h
    rcases h with h | h
    · have := startsR_mem h; omega
    · have := startsC_mem h; omega
theorem startsC_nodup (rs : List RowD) (i : Nat) : ∀ k, (startsC rs i k).Nodup
  | 0 => by simp [startsC]
  | k + 1 => by
    rw [startsC, List.nodup_append]
    refine ⟨startsC_nodup rs i k, by split <;> simp, fun a ha b hb => ?_⟩
    split at hb
    · obtain rfl : b = ((i : Int), (k : Int)) := by simpa using hb
      rintro rfl
      have := startsC_mem ha
      simp only at this
      omega
    · cases hb
theorem startsR_nodup (rs : List RowD) : ∀ i, (startsR rs i).Nodup
  | 0 => by simp [startsR]
  | i + 1 => by
    rw [startsR, List.nodup_append]
    refine ⟨startsR_nodup rs i, startsC_nodup rs i _, fun a ha b hb => ?_⟩
    rintro rfl
    have h1 := startsR_mem ha
    have h2 := startsC_mem hb
    omega
theorem starts_nodup (rs : List RowD) (i k : Nat) : (startsR rs i ++ startsC rs i k).Nodup := by
  rw [List.nodup_append]
  refine ⟨startsR_nodup rs i, startsC_nodup rs i _, fun a ha b hb => ?_⟩
  rintro rfl
  have h1 := startsR_mem ha
  have h2 := startsC_mem hb
  omega
/-! ### what lay has found behind so many cells -/
def Seen (i kk : Nat) (j k : Int) : Prop := j < i ∨ (j = i ∧ k < kk)
def Cov (q : R6) (s : Int × Int) (j : Int) : Prop := (q.left, q.right) = s ∧ q.row ≤ j ∧ j < q.bottom
structure RectI (rs : List RowD) (i kk : Nat) (q : R6) : Prop where
  top : q.top = q.row
  val : Val rs q.row q.cell
  seen : Seen i kk q.row q.cell
  sp : spN rs q.row q.cell = (q.left, q.right)
  start : ¬ CS rs (q.left, q.right) q.row
  rb : q.row < q.bottom
  cs : ∀ j, q.row < j → j < q.bottom → CS rs (q.left, q.right) j
  last : q.bottom ≤ i ∨ (q.bottom = i + 1 ∧ ∃ k : Int, k < kk ∧ Val rs i k ∧ spN rs i k = (q.left, q.right))
  max : ∀ k, Val rs q.bottom k → spN rs q.bottom k = (q.left, q.right) → Seen i kk q.bottom k → ¬ CS rs (q.left, q.right) q.bottom
structure Inv (rs : List RowD) (i kk : Nat) (st : List R6 × PM × PM) : Prop where
  A : ∀ j k, Val rs j k → Seen i kk j k → ∃ n, look st.2.1 (j, k) = some n ∧ 0 ≤ n ∧ n < st.1.length ∧ Cov (qAt st.1 n) (spN rs j k) j
  B : ∀ j k, ¬ (Val rs j k ∧ Seen i kk j k) → look st.2.1 (j, k) = none
  C : ∀ n : Int, 0 ≤ n → n < st.1.length → RectI rs i kk (qAt st.1 n)
  D : st.1.map (fun q => (q.row, q.cell)) = startsR rs i ++ startsC rs i kk
  E : ∀ (s : Int × Int) (n : Int), s.1 ≠ s.2 → (look st.2.2 s = some n ↔ ∃ k : Int, k < kk ∧ Val rs i k ∧ spN rs i k = s ∧ (mgN rs i k = 1 ∨ mgN rs i k = 2) ∧ look st.2.1 (i, k) = some n)
def Opn (rs : List RowD) (i : Nat) (of opn : PM) : Prop :=
  ∀ (s : Int × Int) (n : Int), s.1 ≠ s.2 → (look opn s = some n ↔ ∃ k : Int, Val rs (i - 1) k ∧ spN rs (i - 1) k = s ∧ (mgN rs (i - 1) k = 1 ∨ mgN rs (i - 1) k = 2) ∧ look of ((i : Int) - 1, k) = some n)
theorem merged2 (c : CellD) : mergedN c = 2 ↔ getP c.props 61 0 = 2 := by
  unfold mergedN; split
  · constructor
    · intro h; cases h
    · intro h; omega
  · exact Iff.rfl
theorem merged0 (c : CellD) : mergedN c ≠ 0 ↔ getP c.props 61 0 = 1 ∨ getP c.props 61 0 = 2 := by
  unfold mergedN; split <;> omega
theorem rect_unique {rs : List RowD} {i kk : Nat} {q q' : R6} (h : RectI rs i kk q) (h' : RectI rs i kk q') {s : Int × Int} {j : Int} (c : Cov q s j) (c' : Cov q' s j) : q.row = q'.row ∧ q.cell = q'.cell := by
  have e : (q.left, q.right) = (q'.left, q'.right) := c.1.trans c'.1.symm
  have hr : q.row = q'.row := by
    rcases Int.lt_trichotomy q.row q'.row with hl | hl | hl
    · exact absurd (h.cs q'.row hl (by have := c'.2.1; have := c.2.2; omega)) (by rw [e]; exact h'.start)
    · exact hl
    · exact absurd (h'.cs q.row hl (by have := c.2.1; have := c'.2.2; omega)) (by rw [← e]; exact h.start)
  refine ⟨hr, ?_⟩
  have hv := h.val
  rw [hr] at hv
  refine Val.inj hv h'.val ?_
  rw [h'.sp, ← hr, h.sp, e]
theorem Inv.index {rs : List RowD} {i kk : Nat} {st : List R6 × PM × PM} (h : Inv rs i kk st) {n m : Int} (h0 : 0 ≤ n) (h1 : n < st.1.length) (h2 : 0 ≤ m) (h3 : m < st.1.length) (he : (qAt st.1 n).row = (qAt st.1 m).row ∧ (qAt st.1 n).cell = (qAt st.1 m).cell) : n = m := by
  have hnd : (st.1.map (fun q => (q.row, q.cell))).Nodup := by rw [h.D]; exact starts_nodup rs i kk
  have a1 : n.toNat < st.1.length := by omega
  have a2 : m.toNat < st.1.length := by omega
  have e1 : qAt st.1 n = st.1[n.toNat] := by simp [qAt, a1]
  have e2 : qAt st.1 m = st.1[m.toNat] := by simp [qAt, a2]
  rw [e1, e2] at he
  have := (List.getElem_inj (xs := st.1.map (fun q => (q.row, q.cell))) (i := n.toNat) (j := m.toNat) (h₀ := by simpa using a1) (h₁ := by simpa using a2) hnd).1 (by simp only [List.getElem_map]; exact Prod.ext he.1 he.2)
  omega
theorem Seen.step {i kk : Nat} {j k : Int} : Seen i (kk + 1) j k ↔ Seen i kk j k ∨ (j = i ∧ k = kk) := by
  unfold Seen
  constructor
  · rintro (h | ⟨h1, h2⟩)
    · exact .inl (.inl h)
    · rcases Int.lt_or_eq_of_le (show k ≤ kk by omega) with h | h
      · exact .inl (.inr ⟨h1, h⟩)
      · exact .inr ⟨h1, h⟩
  · rintro ((h | ⟨h1, h2⟩) | ⟨h1, h2⟩)
    · exact .inl h
    · exact .inr ⟨h1, by omega⟩
    · exact .inr ⟨h1, by omega⟩
theorem qAt_snoc_lt (l : List R6) (q : R6) (n : Int) (h0 : 0 ≤ n) (h1 : n < l.length) : qAt (l ++ [q]) n = qAt l n := by
  have h : n.toNat < l.length := by omega
  simp [qAt, List.getElem?_append_left h]
theorem qAt_snoc_eq (l : List R6) (q : R6) : qAt (l ++ [q]) l.length = q := by simp [qAt]
theorem qAt_set (l : List R6) (n b m : Int) (h0 : 0 ≤ n) (h1 : n < l.length) (h2 : 0 ≤ m) : qAt (setBot l n b) m = if m = n then { qAt l n with bottom := b } else qAt l m := by
  have h : n.toNat < l.length := by omega
  unfold setBot qAt
  by_cases hm : m = n
  · subst hm; simp [h]
  · rw [if_neg hm]
    simp [List.getElem?_set, show ¬ n.toNat = m.toNat by omega]
/-- one cell -/
theorem Inv.cell {rs : List RowD} {i kk : Nat} {st : List R6 × PM × PM} {opn : PM} (h : Inv rs i kk st) (ho : Opn rs i st.2.1 opn) (hi : i < rs.length) (hk : kk < ncN rs i) :
    Inv rs i (kk + 1) (layCell i opn st kk (spN rs i kk) (cAt (rAt rs i).cells kk)) ∧ Opn rs i (layCell i opn st kk (spN rs i kk) (cAt (rAt rs i).cells kk)).2.1 opn := by
  have hmg : getP (cAt (rAt rs i).cells kk).props 61 0 = mgN rs i kk := rfl
  have hnew : ¬ Seen i kk i kk := by unfold Seen; omega
  unfold layCell
  split
  · -- no columns
    rename_i he
    have hnv : ¬ Val rs i kk := fun hv => hv.2.2.2.2 he
    have hs : ∀ j k, Val rs j k → (Seen i (kk + 1) j k ↔ Seen i kk j k) := fun j k hv => by
      rw [Seen.step]
      exact ⟨fun h => h.resolve_right (by rintro ⟨rfl, rfl⟩; exact hnv hv), .inl⟩
    refine ⟨⟨fun j k hv hsn => h.A j k hv ((hs j k hv).1 hsn), fun j k hn => h.B j k fun ⟨a, b⟩ => hn ⟨a, (hs j k a).2 b⟩, fun n a b => ?_, ?_, fun s n hsn => ?_⟩, ho⟩
    · have r := h.C n a b
      refine ⟨r.top, r.val, (hs _ _ r.val).2 r.seen, r.sp, r.start, r.rb, r.cs, r.last.imp id fun ⟨x, k, y, z⟩ => ⟨x, k, by omega, z⟩, fun k hv e sn => r.max k hv e ((hs _ _ hv).1 sn)⟩
    · rw [h.D, startsC, show stB rs i kk = false by unfold stB; simp [he]]
      simp
    · rw [h.E s n hsn]
      constructor
      · rintro ⟨k, a, b⟩; exact ⟨k, by omega, b⟩
      · rintro ⟨k, a, b⟩
        rcases Int.lt_or_eq_of_le (show k ≤ kk by omega) with h | h
        · exact ⟨k, h, b⟩
        · subst h; exact absurd b.1 hnv
  · rename_i hne
    have hv : Val rs i kk := ⟨by omega, by omega, by omega, by omega, hne⟩
    -- lookups behind an insertion at this cell
    have hlk : ∀ (v j k : Int), look (insM st.2.1 ((i : Int), (kk : Int)) v) (j, k) = if j = i ∧ k = kk then some v else look st.2.1 (j, k) := fun v j k => by
      rw [look_ins]
      by_cases hjk : j = i ∧ k = kk
      · rw [if_pos hjk, if_pos (by rw [hjk.1, hjk.2])]
      · rw [if_neg hjk, if_neg (by intro e; simp only [Prod.mk.injEq] at e; exact hjk ⟨e.1.symm, e.2.symm⟩)]
    have hopn : ∀ v : Int, Opn rs i (insM st.2.1 ((i : Int), (kk : Int)) v) opn := fun v s n hs => by
      rw [ho s n hs]
      constructor <;> (rintro ⟨k, a, b, c, d⟩; refine ⟨k, a, b, c, ?_⟩)
      · rw [hlk, if_neg (by omega)]; exact d
      · rwa [hlk, if_neg (by omega)] at d
    -- what B, E say of the new tables
    have hB : ∀ (v : Int) j k, ¬ (Val rs j k ∧ Seen i (kk + 1) j k) → look (insM st.2.1 ((i : Int), (kk : Int)) v) (j, k) = none := fun v j k hn => by
      rw [hlk]
      by_cases hjk : j = i ∧ k = kk
      · exact absurd ⟨by rw [hjk.1, hjk.2]; exact hv, Seen.step.2 (.inr hjk)⟩ hn
      · rw [if_neg hjk]
        exact h.B j k fun ⟨a, b⟩ => hn ⟨a, Seen.step.2 (.inl b)⟩
    have hE : ∀ (v : Int) (s : Int × Int) (n : Int), s.1 ≠ s.2 → (look (if mergedN (cAt (rAt rs i).cells kk) ≠ 0 then insM st.2.2 (spN rs i kk) v else st.2.2) s = some n ↔
        ∃ k : Int, k < ((kk + 1 : Nat) : Int) ∧ Val rs i k ∧ spN rs i k = s ∧ (mgN rs i k = 1 ∨ mgN rs i k = 2) ∧ look (insM st.2.1 ((i : Int), (kk : Int)) v) (i, k) = some n) := fun v s n hs => by
      have hold : (∃ k : Int, k < ((kk + 1 : Nat) : Int) ∧ Val rs i k ∧ spN rs i k = s ∧ (mgN rs i k = 1 ∨ mgN rs i k = 2) ∧ look (insM st.2.1 ((i : Int), (kk : Int)) v) (i, k) = some n) ↔
          ((spN rs i kk = s ∧ (mgN rs i kk = 1 ∨ mgN rs i kk = 2) ∧ v = n) ∨ ∃ k : Int, k < kk ∧ Val rs i k ∧ spN rs i k = s ∧ (mgN rs i k = 1 ∨ mgN rs i k = 2) ∧ look st.2.1 (i, k) = some n) := by
        constructor
        · rintro ⟨k, a, b, c, d, e⟩
          rw [hlk] at e
          rcases Int.lt_or_eq_of_le (show k ≤ kk by omega) with hl | hl
          · rw [if_neg (by omega)] at e
            exact .inr ⟨k, hl, b, c, d, e⟩
          · subst hl
            rw [if_pos ⟨rfl, rfl⟩] at e
            exact .inl ⟨c, d, by simpa using e⟩
        · rintro (⟨c, d, rfl⟩ | ⟨k, a, b, c, d, e⟩)
          · exact ⟨kk, by omega, hv, c, d, by rw [hlk, if_pos ⟨rfl, rfl⟩]⟩
          · exact ⟨k, by omega, b, c, d, by rw [hlk, if_neg (by omega)]; exact e⟩
      rw [hold]
      by_cases hm : mergedN (cAt (rAt rs i).cells kk) ≠ 0
      · rw [if_pos hm, look_ins]
        have hm' := (merged0 _).1 hm
        rw [hmg] at hm'
        by_cases hss : spN rs i kk = s
        · rw [if_pos hss]
          constructor
          · intro e; exact .inl ⟨hss, hm', by simpa using e⟩
          · rintro (⟨_, _, rfl⟩ | ⟨k, a, b, c, d, e⟩)
            · rfl
            · have := Val.inj b hv (c.trans hss.symm); omega
        · rw [if_neg hss, h.E s n hs]
          exact ⟨.inr, fun e => e.resolve_left fun e => hss e.1⟩
      · rw [if_neg hm, h.E s n hs]
        have hm' : ¬ (mgN rs i kk = 1 ∨ mgN rs i kk = 2) := fun e => hm ((merged0 _).2 e)
        exact ⟨.inr, fun e => e.resolve_left fun e => hm' e.2.1⟩
    split
    · -- it continues a rectangle
      rename_i hc
      obtain ⟨n, hn⟩ := Option.isSome_iff_exists.1 hc.1
      simp only [hn, Option.getD_some]
      obtain ⟨k', a, b, c, d⟩ := (ho _ n hne).1 hn
      have hm2 : mgN rs i kk = 2 := by have := (merged2 _).1 hc.2; rwa [hmg] at this
      have hCS : CS rs (spN rs i kk) i := ⟨kk, k', hv, rfl, hm2, a, b, c⟩
      obtain ⟨n', e1, e2, e3, e4⟩ := h.A _ k' a (.inl (by omega))
      rw [d] at e1
      obtain rfl : n = n' := by simpa using e1
      rw [b] at e4
      have r := h.C n e2 e3
      have hbot : (qAt st.1 n).bottom = i := by
        rcases r.last with hl | ⟨hl, k2, x, y, z⟩
        · have := e4.2.2; omega
        · have := Val.inj y hv (z.trans e4.1); omega
      have hr' : RectI rs i (kk + 1) { qAt st.1 n with bottom := (i : Int) + 1 } := by
        refine ⟨r.top, r.val, Seen.step.2 (.inl r.seen), r.sp, r.start, by have := e4.2.1; simp only; omega, fun j x y => ?_, .inr ⟨rfl, kk, by omega, hv, e4.1.symm⟩, fun k y z sn => ?_⟩
        · simp only at x y ⊢
          rcases Int.lt_or_eq_of_le (show j ≤ i by omega) with hl | hl
          · exact r.cs j x (by omega)
          · rw [hl, e4.1]; exact hCS
        · simp only at sn
          unfold Seen at sn; omega
      have hlen : (setBot st.1 n ((i : Int) + 1)).length = st.1.length := setBot_len _ _ _
      refine ⟨⟨fun j k hv' hsn => ?_, hB n, fun m x y => ?_, ?_, hE n⟩, hopn n⟩
      · dsimp only
        rw [hlk]
        by_cases hjk : j = i ∧ k = kk
        · obtain ⟨rfl, rfl⟩ := hjk
          refine ⟨n, by rw [if_pos ⟨rfl, rfl⟩], e2, by rw [hlen]; exact e3, ?_⟩
          rw [qAt_set _ _ _ _ e2 e3 e2, if_pos rfl]
          exact ⟨e4.1, by have := e4.2.1; simp only; omega, by simp only; omega⟩
        · rw [if_neg hjk]
          obtain ⟨m, m1, m2, m3, m4⟩ := h.A j k hv' ((Seen.step.1 hsn).resolve_right hjk)
          refine ⟨m, m1, m2, by rw [hlen]; exact m3, ?_⟩
          rw [qAt_set _ _ _ _ e2 e3 m2]
          split
          · rename_i hmn
            subst hmn
            exact ⟨m4.1, m4.2.1, by have := m4.2.2; simp only; omega⟩
          · exact m4
      · dsimp only at y ⊢
        rw [hlen] at y
        rw [qAt_set _ _ _ _ e2 e3 x]
        split
        · exact hr'
        · rename_i hmn
          have q := h.C m x y
          refine ⟨q.top, q.val, Seen.step.2 (.inl q.seen), q.sp, q.start, q.rb, q.cs, q.last.imp id fun ⟨x, k, y, z⟩ => ⟨x, k, by omega, z⟩, fun k y' z sn => ?_⟩
          rcases Seen.step.1 sn with sn | ⟨s1, s2⟩
          · exact q.max k y' z sn
          · exfalso
            subst s2
            rw [s1] at z
            have cov : Cov (qAt st.1 m) (spN rs i kk) (i - 1) := ⟨z.symm, by have := q.rb; omega, by omega⟩
            exact hmn (h.index x y e2 e3 (rect_unique q r cov e4))
      · dsimp only
        have e5 : (setBot st.1 n ((i : Int) + 1)).map (fun q => (q.row, q.cell)) = st.1.map (fun q => (q.row, q.cell)) := by
          refine List.ext_getElem (by simp [hlen]) fun j a1 a2 => ?_
          simp only [List.getElem_map, setBot, List.getElem_set]
          split
          · rename_i hj
            have a3 : n.toNat < st.1.length := by omega
            have : qAt st.1 n = st.1[n.toNat] := by simp [qAt, a3]
            rw [this]; simp only [hj]
          · rfl
        rw [e5, h.D, startsC, show stB rs i kk = false by unfold stB; rw [(contB_iff hv).2 hCS]; simp]
        simp
    · -- a new one
      rename_i hc
      have hnCS : ¬ CS rs (spN rs i kk) i := by
        rintro ⟨k, k', a, b, c, d, e, f⟩
        obtain rfl := Val.inj a hv b
        obtain ⟨n, e1, _⟩ := h.A _ k' d (.inl (by omega))
        have := (ho _ n hne).2 ⟨k', d, e, f, e1⟩
        exact hc ⟨by rw [this]; rfl, (merged2 _).2 (by rw [hmg]; exact c)⟩
      have hlen : (st.1 ++ [(⟨i, kk, i, (spN rs i kk).1, i + 1, (spN rs i kk).2⟩ : R6)]).length = st.1.length + 1 := by simp
      refine ⟨⟨fun j k hv' hsn => ?_, hB _, fun m x y => ?_, ?_, hE _⟩, hopn _⟩
      · dsimp only
        rw [hlk]
        by_cases hjk : j = i ∧ k = kk
        · obtain ⟨rfl, rfl⟩ := hjk
          refine ⟨st.1.length, by rw [if_pos ⟨rfl, rfl⟩], by omega, by rw [hlen]; omega, ?_⟩
          rw [qAt_snoc_eq]
          exact ⟨rfl, Int.le_refl _, by simp only; omega⟩
        · rw [if_neg hjk]
          obtain ⟨m, m1, m2, m3, m4⟩ := h.A j k hv' ((Seen.step.1 hsn).resolve_right hjk)
          refine ⟨m, m1, m2, by rw [hlen]; omega, ?_⟩
          rw [qAt_snoc_lt _ _ _ m2 m3]
          exact m4
      · dsimp only at y ⊢
        rw [hlen] at y
        rcases Int.lt_or_eq_of_le (show m ≤ st.1.length by omega) with hl | hl
        · rw [qAt_snoc_lt _ _ _ x hl]
          have q := h.C m x hl
          refine ⟨q.top, q.val, Seen.step.2 (.inl q.seen), q.sp, q.start, q.rb, q.cs, q.last.imp id fun ⟨x, k, y, z⟩ => ⟨x, k, by omega, z⟩, fun k y' z sn => ?_⟩
          rcases Seen.step.1 sn with sn | ⟨s1, s2⟩
          · exact q.max k y' z sn
          · subst s2
            rw [s1] at z ⊢
            rw [← z]; exact hnCS
        · rw [hl, qAt_snoc_eq]
          refine ⟨rfl, hv, Seen.step.2 (.inr ⟨rfl, rfl⟩), rfl, hnCS, by simp only; omega, fun j a b => by simp only at a b; omega, .inr ⟨rfl, kk, by omega, hv, rfl⟩, fun k a b sn => ?_⟩
          simp only at sn
          unfold Seen at sn; omega
      · dsimp only
        rw [List.map_append, h.D, startsC, show stB rs i kk = true by unfold stB; rw [Bool.eq_false_iff.2 (fun hh => hnCS ((contB_iff hv).1 hh))]; simp [hne]]
        simp
theorem Inv.upto {rs : List RowD} {i : Nat} {st : List R6 × PM × PM} {opn : PM} (h : Inv rs i 0 st) (ho : Opn rs i st.2.1 opn) (hi : i < rs.length) : ∀ kk, kk ≤ ncN rs i → Inv rs i kk (layUpto i opn (rAt rs i) st kk) ∧ Opn rs i (layUpto i opn (rAt rs i) st kk).2.1 opn
  | 0, _ => ⟨h, ho⟩
  | kk + 1, hk => by
    obtain ⟨h1, h2⟩ := Inv.upto h ho hi kk (by omega)
    exact h1.cell h2 hi (by omega)
theorem lay_inv (rs : List RowD) : ∀ i, i ≤ rs.length → Inv rs i 0 ((layRows rs i).1, (layRows rs i).2.1, []) ∧ Opn rs i (layRows rs i).2.1 (layRows rs i).2.2
  | 0, _ => by
    refine ⟨⟨fun j k hv hs => ?_, fun j k _ => by simp [layRows, look], fun n a b => by (simp [layRows] at b; omega), by simp [layRows, startsR, startsC], fun s n _ => ?_⟩, fun s n _ => ?_⟩
    · have := hv.1; have := hv.2.2.1; unfold Seen at hs; omega
    · constructor
      · intro e; simp [look] at e
      · rintro ⟨k, a, b, _⟩; have := b.2.2.1; omega
    · constructor
      · intro e; simp [layRows, look] at e
      · rintro ⟨k, a, _⟩; have := a.1; simp at this
  | i + 1, hi => by
    obtain ⟨h1, h2⟩ := lay_inv rs i (by omega)
    obtain ⟨h3, h4⟩ := h1.upto h2 (by omega) (ncN rs i) (Nat.le_refl _)
    have hrow : layRows rs (i + 1) = layUpto i (layRows rs i).2.2 (rAt rs i) ((layRows rs i).1, (layRows rs i).2.1, []) (ncN rs i) := rfl
    have hsn : ∀ j k, Val rs j k → (Seen (i + 1) 0 j k ↔ Seen i (ncN rs i) j k) := fun j k hv => by
      have h5 := hv.2.2.1
      have h6 := hv.2.2.2.1
      unfold Seen
      constructor
      · rintro (h | h)
        · rcases Int.lt_or_eq_of_le (show j ≤ i by omega) with h | h
          · exact .inl h
          · subst h; exact .inr ⟨rfl, h6⟩
        · omega
      · rintro (h | h)
        · exact .inl (by omega)
        · exact .inl (by omega)
    rw [← hrow] at h3 h4
    refine ⟨⟨fun j k hv hs => h3.A j k hv ((hsn j k hv).1 hs), fun j k hn => h3.B j k fun ⟨a, b⟩ => hn ⟨a, (hsn j k a).2 b⟩, fun n a b => ?_, ?_, fun s n _ => ?_⟩, fun s n hs => ?_⟩
    · have r := h3.C n a b
      refine ⟨r.top, r.val, (hsn _ _ r.val).2 r.seen, r.sp, r.start, r.rb, r.cs, .inl ?_, fun k hv e sn => r.max k hv e ((hsn _ _ hv).1 sn)⟩
      rcases r.last with h | h
      · show (qAt (layRows rs (i + 1)).1 n).bottom ≤ ((i + 1 : Nat) : Int); omega
      · have := h.1; show (qAt (layRows rs (i + 1)).1 n).bottom ≤ ((i + 1 : Nat) : Int); omega
    · show (layRows rs (i + 1)).1.map _ = _
      rw [h3.D, startsC, List.append_nil]; rfl
    · constructor
      · intro e; simp [look] at e
      · rintro ⟨k, a, b, _⟩; have := b.2.2.1; omega
    · rw [h3.E s n hs]
      rw [show (((i + 1 : Nat) : Int) - 1) = i by omega]
      constructor
      · rintro ⟨k, a, b⟩; exact ⟨k, b⟩
      · rintro ⟨k, b⟩; exact ⟨k, b.1.2.2.2.1, b⟩
/-! ### what lay has found at its end -/
theorem lay_final (rs : List RowD) : Inv rs rs.length 0 (layRects rs, layOf rs, []) := (lay_inv rs rs.length (Nat.le_refl _)).1
theorem seen_all {rs : List RowD} {j k : Int} (h : Val rs j k) : Seen rs.length 0 j k := .inl h.2.1
theorem rect_bot {rs : List RowD} {q : R6} (r : RectI rs rs.length 0 q) : ¬ CS rs (q.left, q.right) q.bottom := fun h => by
  obtain ⟨k, k', a, b, _⟩ := id h
  exact r.max k a b (seen_all a) h
theorem bot_unique {rs : List RowD} {s : Int × Int} {r b c : Int} (h1 : r < b) (h2 : ∀ j, r < j → j < b → CS rs s j) (h3 : ¬ CS rs s b) (h4 : r < c) (h5 : ∀ j, r < j → j < c → CS rs s j) (h6 : ¬ CS rs s c) : b = c := by
  rcases Int.lt_trichotomy b c with h | h | h
  · exact absurd (h5 b h1 h) h3
  · exact h
  · exact absurd (h2 c h4 h) h6
theorem top_unique {rs : List RowD} {s : Int × Int} {r t u : Int} (h1 : t ≤ r) (h2 : ∀ j, t < j → j ≤ r → CS rs s j) (h3 : ¬ CS rs s t) (h4 : u ≤ r) (h5 : ∀ j, u < j → j ≤ r → CS rs s j) (h6 : ¬ CS rs s u) : t = u := by
  rcases Int.lt_trichotomy t u with h | h | h
  · exact absurd (h2 u h h4) h6
  · exact h
  · exact absurd (h5 t h h1) h3
/-- a rectangle that covers a cell's columns in its row is the cell's -/
theorem rect_eq {rs : List RowD} {q : R6} (r : RectI rs rs.length 0 q) {i k : Int} (hv : Val rs i k) (c : Cov q (spN rs i k) i) : q = rectN rs i k := by
  have ht := topN_spec rs (spN rs i k) i.toNat (by have := hv.1; have := hv.2.1; omega)
  have hi : ((i.toNat : Nat) : Int) = i := by have := hv.1; omega
  rw [hi] at ht
  have hb := botN_spec rs (spN rs i k) (rs.length - (i.toNat + 1)) (i.toNat + 1) (by have := hv.1; have := hv.2.1; omega)
  have e1 : q.row = topN rs (spN rs i k) i.toNat := top_unique c.2.1 (fun j a b => by have := r.cs j a (by have := c.2.2; omega); rwa [c.1] at this) (by have := r.start; rwa [c.1] at this) (by have := ht.1; omega) ht.2.1 ht.2.2
  have e2 : q.bottom = botN rs (spN rs i k) (i.toNat + 1) (rs.length - (i.toNat + 1)) := by
    refine bot_unique (r := i) (s := spN rs i k) c.2.2 (fun j a b => by have := r.cs j (by have := c.2.1; omega) b; rwa [c.1] at this) (by have := rect_bot r; rwa [c.1] at this) (by have := hb.1; omega) (fun j a b => hb.2.1 j (by omega) b) hb.2.2.1
  have e3 : q.cell = sameN (rAt rs q.row) (spN rs i k).1 (spN rs i k).2 := by
    have := sameN_val r.val
    rw [r.sp, c.1] at this
    exact this.symm
  have e4 : q.left = (spN rs i k).1 := congrArg Prod.fst c.1
  have e5 : q.right = (spN rs i k).2 := congrArg Prod.snd c.1
  have e6 := r.top
  cases q
  simp only at e1 e2 e3 e4 e5 e6
  unfold rectN
  subst e4; subst e5
  simp only [R6.mk.injEq]
  refine ⟨e1, by rw [e3, e1], by rw [e6, e1], trivial, e2, trivial⟩
end Go.Ob
set_option linter.unusedVariables false
set_option linter.unusedSimpArgs false
namespace Go.Ob
open Go.Proofs
theorem sameN_lt {r : RowD} {f t : Int} (h : 0 ≤ sameN r f t) : sameN r f t < r.cells.length := by
  rcases firstIdx_spec (fun k => decide ((sAt (spansR r) k).1 = f ∧ (sAt (spansR r) k).2 = t ∧ (sAt (spansR r) k).1 < (sAt (spansR r) k).2)) r.cells.length with ⟨a, _⟩ | ⟨_, b, _, _⟩
  · have : sameN r f t = -1 := a
    omega
  · exact b
theorem csB_val {rs : List RowD} {i k : Int} (h : Val rs i k) : csB rs (spN rs i k) i = contB rs i k := by
  unfold csB
  rw [sameN_val h]
  simp [h.2.2.1]
theorem topN_step {rs : List RowD} {s : Int × Int} {i : Int} (h : 1 ≤ i) (hc : csB rs s i = true) : topN rs s i.toNat = topN rs s (i - 1).toNat := by
  obtain ⟨n, hn⟩ : ∃ n : Nat, i = n + 1 := ⟨(i - 1).toNat, by omega⟩
  subst hn
  rw [show ((n : Int) + 1).toNat = n + 1 by omega, show ((n : Int) + 1 - 1).toNat = n by omega, topN, if_pos (by simpa using hc)]
theorem topN_stop {rs : List RowD} {s : Int × Int} {i : Int} (h : 0 ≤ i) (hc : csB rs s i = false) : topN rs s i.toNat = i.toNat := by
  rcases Int.lt_or_eq_of_le h with hl | hl
  · obtain ⟨n, hn⟩ : ∃ n : Nat, i = n + 1 := ⟨(i - 1).toNat, by omega⟩
    subst hn
    have hc' : csB rs s ((n + 1 : Nat) : Int) = false := by simpa using hc
    rw [show ((n : Int) + 1).toNat = n + 1 by omega, topN, hc', if_neg (by simp)]
  · subst hl; rfl
theorem contB_zero (rs : List RowD) (k : Int) : contB rs 0 k = false := by simp [contB]
theorem botN_step {rs : List RowD} {s : Int × Int} {b : Int} (h0 : 0 ≤ b) (h : b < rs.length) (hc : csB rs s b = true) : botN rs s b.toNat (rs.length - b.toNat) = botN rs s (b + 1).toNat (rs.length - (b + 1).toNat) := by
  rw [show rs.length - b.toNat = (rs.length - (b + 1).toNat) + 1 by omega, botN, show ((b.toNat : Nat) : Int) = b by omega, if_pos hc, show (b + 1).toNat = b.toNat + 1 by omega]
theorem botN_stop {rs : List RowD} {s : Int × Int} {b : Int} (h0 : 0 ≤ b) (hc : csB rs s b = false ∨ (rs.length : Int) ≤ b) : botN rs s b.toNat (rs.length - b.toNat) = b.toNat := by
  rcases hc with hc | hc
  · generalize rs.length - b.toNat = d
    cases d with
    | zero => rfl
    | succ d => rw [botN, show ((b.toNat : Nat) : Int) = b by omega, hc, if_neg (by simp)]
  · rw [show rs.length - b.toNat = 0 by omega]; rfl
def atV (rs : List RowD) (i c : Int) : Int := if 0 ≤ i ∧ i < rs.length ∧ 0 ≤ c ∧ c < 32 then (if 0 ≤ atN (rAt rs i) c then atN (rAt rs i) c else 0) else 0
def atE (rs : List RowD) (i c : Int) : Int := if 0 ≤ i ∧ i < rs.length ∧ 0 ≤ c ∧ c < 32 then (if 0 ≤ atN (rAt rs i) c then 0 else 8) else 2
theorem place_val {rs : List RowD} {i k : Int} : Val rs i k ↔ existsN rs i k ∧ (spN rs i k).1 ≠ (spN rs i k).2 := by
  unfold Val existsN ncN
  constructor
  · rintro ⟨a, b, c, d, e⟩; exact ⟨⟨a, b, c, d⟩, e⟩
  · rintro ⟨⟨a, b, c, d⟩, e⟩; exact ⟨a, b, c, d, e⟩
theorem look_of {rs : List RowD} {i k : Int} (h : Val rs i k) : ∃ n, look (layOf rs) (i, k) = some n ∧ 0 ≤ n ∧ n < (layRects rs).length ∧ qAt (layRects rs) n = rectN rs i k := by
  have hf := lay_final rs
  obtain ⟨n, a, b, c, d⟩ := hf.A i k h (seen_all h)
  exact ⟨n, a, b, c, rect_eq (hf.C n b c) h d⟩
theorem look_not {rs : List RowD} {i k : Int} (h : ¬ Val rs i k) : look (layOf rs) (i, k) = none := (lay_final rs).B i k fun ⟨a, _⟩ => h a
/-! ### the rectangles in order -/
def cntN (rs : List RowD) (i k : Int) : Int := ((startsR rs i.toNat ++ startsC rs i.toNat k.toNat).length : Int)
theorem cntN_step (rs : List RowD) (i k : Int) (h0 : 0 ≤ i) (h : 0 ≤ k) : cntN rs i (k + 1) = if stB rs i k = true then cntN rs i k + 1 else cntN rs i k := by
  unfold cntN
  rw [show (k + 1).toNat = k.toNat + 1 by omega, startsC, show ((k.toNat : Nat) : Int) = k by omega, show ((i.toNat : Nat) : Int) = i by omega]
  split <;> simp <;> omega
theorem cntN_row (rs : List RowD) (i : Int) (h : 0 ≤ i) : cntN rs i (ncN rs i) = cntN rs (i + 1) 0 := by
  unfold cntN
  rw [show (i + 1).toNat = i.toNat + 1 by omega, startsR, show ((i.toNat : Nat) : Int) = i by omega]
  simp [startsC]
theorem starts_prefix (rs : List RowD) (i : Nat) : ∀ (d : Nat), startsR rs i <+: startsR rs (i + d)
  | 0 => List.prefix_refl _
  | d + 1 => (starts_prefix rs i d).trans (by rw [← Nat.add_assoc, startsR]; exact List.prefix_append _ _)
theorem startsC_prefix (rs : List RowD) (i k : Nat) : ∀ (d : Nat), startsC rs i k <+: startsC rs i (k + d)
  | 0 => List.prefix_refl _
  | d + 1 => (startsC_prefix rs i k d).trans (by rw [← Nat.add_assoc, startsC]; exact List.prefix_append _ _)
theorem rects_len (rs : List RowD) : ((layRects rs).length : Int) = cntN rs rs.length 0 := by
  have h := congrArg List.length (lay_final rs).D
  rw [List.length_map] at h
  unfold cntN
  rw [show ((rs.length : Int)).toNat = rs.length by omega]
  exact congrArg _ h
theorem rects_at {rs : List RowD} {i k : Int} (h : existsN rs i k) (hs : stB rs i k = true) : 0 ≤ cntN rs i k ∧ cntN rs i k < (layRects rs).length ∧ qAt (layRects rs) (cntN rs i k) = rectN rs i k ∧ (spN rs i k).1 ≠ (spN rs i k).2 := by
  obtain ⟨h0, h1, h2, h3⟩ := h
  have hD := (lay_final rs).D
  simp only [startsC, List.append_nil] at hD
  have hsub : startsR rs i.toNat ++ startsC rs i.toNat (k.toNat + 1) <+: startsR rs rs.length := by
    refine List.IsPrefix.trans ?_ ((starts_prefix rs (i.toNat + 1) (rs.length - (i.toNat + 1))).trans (by rw [show i.toNat + 1 + (rs.length - (i.toNat + 1)) = rs.length by omega]; exact List.prefix_refl _))
    rw [startsR]
    refine (List.prefix_append_right_inj _).2 ?_
    have hn : k.toNat + 1 ≤ ncN rs (i.toNat : Int) := by unfold ncN; rw [show ((i.toNat : Nat) : Int) = i by omega]; omega
    have := startsC_prefix rs i.toNat (k.toNat + 1) (ncN rs (i.toNat : Int) - (k.toNat + 1))
    rwa [show k.toNat + 1 + (ncN rs (i.toNat : Int) - (k.toNat + 1)) = ncN rs (i.toNat : Int) by omega] at this
  rw [startsC, show ((k.toNat : Nat) : Int) = k by omega, show ((i.toNat : Nat) : Int) = i by omega, if_pos hs, ← List.append_assoc] at hsub
  obtain ⟨tl, htl⟩ := hsub
  have hc : (cntN rs i k).toNat = (startsR rs i.toNat ++ startsC rs i.toNat k.toNat).length := by unfold cntN; omega
  have hne : (spN rs i k).1 ≠ (spN rs i k).2 := by
    unfold stB at hs
    rw [Bool.and_eq_true, decide_eq_true_eq] at hs
    exact hs.1
  have hv : Val rs i k := place_val.2 ⟨⟨h0, h1, h2, h3⟩, hne⟩
  have hlen : (cntN rs i k).toNat < (layRects rs).length := by
    have e1 := congrArg List.length hD
    have e2 := congrArg List.length htl
    rw [List.length_map] at e1
    simp only [List.length_append, List.length_cons, List.length_nil] at e2 hc
    omega
  have hpos : 0 ≤ cntN rs i k := by unfold cntN; omega
  have hget : ((layRects rs).map (fun q => (q.row, q.cell)))[(cntN rs i k).toNat]? = some (i, k) := by
    rw [hD, ← htl, hc]
    simp
  have hq : qAt (layRects rs) (cntN rs i k) = (layRects rs)[(cntN rs i k).toNat] := by simp [qAt, hlen]
  have hrc : (qAt (layRects rs) (cntN rs i k)).row = i ∧ (qAt (layRects rs) (cntN rs i k)).cell = k := by
    rw [List.getElem?_map, List.getElem?_eq_getElem hlen] at hget
    simp only [Option.map_some, Option.some.injEq, Prod.mk.injEq] at hget
    rw [hq]; exact hget
  have r := (lay_final rs).C _ hpos (by show _ < ((layRects rs).length : Int); omega)
  refine ⟨hpos, by omega, rect_eq r hv ?_, hne⟩
  refine ⟨?_, by rw [hrc.1]; exact Int.le_refl _, ?_⟩
  · have := r.sp
    rw [hrc.1, hrc.2] at this
    exact this.symm
  · have := r.rb
    rw [hrc.1] at this
    exact this
theorem st_iff {rs : List RowD} {i k : Int} (h : existsN rs i k) : (placeE rs i k ≠ 0 ∨ (placeR rs i k).row ≠ i) ↔ stB rs i k = false := by
  unfold placeE placeR stB
  rw [if_neg (by simpa using h)]
  by_cases hs : (spN rs i k).1 = (spN rs i k).2
  · rw [if_pos hs]; simp [hs]
  · have hv : Val rs i k := place_val.2 ⟨h, hs⟩
    rw [if_neg hs, if_pos ⟨h, hs⟩]
    simp only [rectN]
    have ht := topN_spec rs (spN rs i k) i.toNat (by have := h.1; have := h.2.1; omega)
    have hi : ((i.toNat : Nat) : Int) = i := by have := h.1; omega
    rw [hi] at ht
    cases hc : contB rs i k with
    | true =>
      have hcs := (contB_iff hv).1 hc
      simp only [hs, ne_eq, not_false_eq_true, decide_true, Bool.not_true, Bool.and_false, iff_true]
      refine .inr fun e => ht.2.2 ?_
      rw [e]; exact hcs
    | false =>
      have hcs : ¬ CS rs (spN rs i k) i := fun e => by rw [(contB_iff hv).2 e] at hc; cases hc
      simp only [hs, ne_eq, not_false_eq_true, decide_true, Bool.not_false, Bool.and_true, not_true_eq_false, false_or, iff_false, Decidable.not_not, reduceCtorEq]
      rcases Int.lt_or_eq_of_le (show (topN rs (spN rs i k) i.toNat : Int) ≤ i by omega) with hl | hl
      · exact absurd (ht.2.1 i hl (Int.le_refl _)) hcs
      · exact hl
end Go.Ob
