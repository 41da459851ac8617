import Derived.Test.YtlhjcleejolbiaaN3
set_option linter.unusedVariables false
set_option linter.unusedSimpArgs false
namespace Go.Ob
open Go.Proofs
/-! ### how many rectangles cover a square -/
def covB (q : R6) (i c : Int) : Bool := decide (q.top ≤ i ∧ i < q.bottom ∧ q.left ≤ c ∧ c < q.right)
def covTo (l : List R6) (i c : Int) : Nat → Int
  | 0 => 0
  | k + 1 => if covB (qAt l k) i c = true then covTo l i c k + 1 else covTo l i c k
theorem covTo_bound (l : List R6) (i c : Int) : ∀ k : Nat, 0 ≤ covTo l i c k ∧ covTo l i c k ≤ k
  | 0 => ⟨Int.le_refl _, Int.le_refl _⟩
  | k + 1 => by have := covTo_bound l i c k; unfold covTo; split <;> omega
theorem covTo_step (l : List R6) (i c k : Int) (h : 0 ≤ k) : covTo l i c (k + 1).toNat = if covB (qAt l k) i c = true then covTo l i c k.toNat + 1 else covTo l i c k.toNat := by
  rw [show (k + 1).toNat = k.toNat + 1 by omega, covTo, show ((k.toNat : Nat) : Int) = k by omega]
theorem covTo_zero {l : List R6} {i c : Int} : ∀ {k : Nat}, (∀ j : Int, 0 ≤ j → j < k → covB (qAt l j) i c = false) → covTo l i c k = 0
  | 0, _ => rfl
  | k + 1, h => by
    rw [covTo, h k (by omega) (by omega), if_neg (by simp)]
    exact covTo_zero fun j a b => h j a (by omega)
theorem covTo_one {l : List R6} {i c n : Int} (h0 : 0 ≤ n) (hn : covB (qAt l n) i c = true) : ∀ {k : Nat}, n < k → (∀ j : Int, 0 ≤ j → j < k → covB (qAt l j) i c = true → j = n) → covTo l i c k = 1
  | 0, h, _ => by omega
  | k + 1, h, hu => by
    rw [covTo]
    by_cases hk : n = k
    · subst hk
      rw [if_pos hn, covTo_zero fun j a b => by
        cases hc : covB (qAt l j) i c with
        | false => rfl
        | true => have := hu j a (by omega) hc; omega]
      rfl
    · rw [if_neg (fun hc => hk (hu k (by omega) (by omega) hc).symm)]
      exact covTo_one h0 hn (by omega) fun j a b => hu j a (by omega)
/-- a rectangle that covers a square is that of the row's cell with this column -/
theorem cov_cell {rs : List RowD} {q : R6} (r : RectI rs rs.length 0 q) {i c : Int} (hc : covB q i c = true) : ∃ k, Val rs i k ∧ Cov q (spN rs i k) i ∧ (spN rs i k).1 ≤ c ∧ c < (spN rs i k).2 := by
  obtain ⟨h1, h2, h3, h4⟩ := of_decide_eq_true hc
  rw [r.top] at h1
  rcases Int.lt_or_eq_of_le h1 with hl | hl
  · obtain ⟨k, k', a, b, _⟩ := r.cs i hl h2
    exact ⟨k, a, ⟨b.symm, h1, h2⟩, by rw [b]; exact h3, by rw [b]; exact h4⟩
  · subst hl
    exact ⟨q.cell, r.val, ⟨r.sp.symm, h1, h2⟩, by rw [r.sp]; exact h3, by rw [r.sp]; exact h4⟩
theorem val_col {rs : List RowD} {i k c : Int} (h : existsN rs i k) (h1 : (spN rs i k).1 ≤ c) (h2 : c < (spN rs i k).2) : Val rs i k := place_val.2 ⟨h, by omega⟩
theorem atN_cell {rs : List RowD} {i k c : Int} (h : Val rs i k) (h1 : (spN rs i k).1 ≤ c) (h2 : c < (spN rs i k).2) : atN (rAt rs i) c = k := by
  have e := h.2.2.2.1
  refine firstIdx_at h.2.2.1 (decide_eq_true ⟨h1, h2⟩) (fun j a b => decide_eq_false fun hh => ?_) e
  have := sAt_col (r := rAt rs i) (j := j) (k := k) (c := c) a (by unfold ncN at e; omega) h.2.2.1 e hh.1 hh.2 h1 h2
  omega
theorem atN_of {rs : List RowD} {i c : Int} (h0 : 0 ≤ i) (h1 : i < rs.length) (h : 0 ≤ atN (rAt rs i) c) : Val rs i (atN (rAt rs i) c) ∧ (spN rs i (atN (rAt rs i) c)).1 ≤ c ∧ c < (spN rs i (atN (rAt rs i) c)).2 := by
  rcases firstIdx_spec (fun k => decide ((sAt (spansR (rAt rs i)) k).1 ≤ c ∧ c < (sAt (spansR (rAt rs i)) k).2)) (rAt rs i).cells.length with ⟨a, _⟩ | ⟨_, b, d, _⟩
  · have : atN (rAt rs i) c = -1 := a
    omega
  · have d' := of_decide_eq_true d
    exact ⟨val_col ⟨h0, h1, h, b⟩ d'.1 d'.2, d'.1, d'.2⟩
theorem cov_count (rs : List RowD) (i c : Int) (h0 : 0 ≤ i) (h1 : i < rs.length) : covTo (layRects rs) i c (layRects rs).length = if 0 ≤ atN (rAt rs i) c then 1 else 0 := by
  have hf := lay_final rs
  split
  · rename_i h
    obtain ⟨hv, a, b⟩ := atN_of h0 h1 h
    obtain ⟨n, _, n0, n1, cov⟩ := hf.A _ _ hv (seen_all hv)
    have r := hf.C n n0 n1
    refine covTo_one n0 (decide_eq_true ?_) (by have : n < ((layRects rs).length : Int) := n1; omega) (fun j ja jb hc => ?_)
    · have e1 : (qAt (layRects rs) n).left = _ := congrArg Prod.fst cov.1
      have e2 : (qAt (layRects rs) n).right = _ := congrArg Prod.snd cov.1
      refine ⟨by rw [show (qAt (layRects rs) n).top = _ from r.top]; exact cov.2.1, cov.2.2, by rw [e1]; exact a, by rw [e2]; exact b⟩
    · have rj := hf.C j ja (by show j < ((layRects rs).length : Int); omega)
      obtain ⟨k, v, cv, p, q⟩ := cov_cell rj hc
      have hk := atN_cell v p q
      rw [hk] at cov
      exact hf.index ja (by show j < ((layRects rs).length : Int); omega) n0 n1 (rect_unique rj r cv cov)
  · rename_i h
    refine covTo_zero fun j ja jb => ?_
    cases hc : covB (qAt (layRects rs) j) i c with
    | false => rfl
    | true =>
      obtain ⟨k, v, cv, p, q⟩ := cov_cell (hf.C j ja (by show j < ((layRects rs).length : Int); omega)) hc
      have hk := atN_cell v p q
      exact absurd (by rw [hk]; exact v.2.2.1) h
/-! ### regular -/
def rowB (r : RowD) (w : Int) : Bool := decide ((r.cells.length = 0 ∨ (sAt (spansR r) (r.cells.length - 1)).1 ≠ (sAt (spansR r) (r.cells.length - 1)).2) ∧ spTo r r.cells.length = w)
def regTo (rs : List RowD) (w : Int) : Nat → Bool
  | 0 => true
  | i + 1 => regTo rs w i && rowB (rAt rs i) w
theorem regTo_false {rs : List RowD} {w i : Int} (h0 : 0 ≤ i) (h : rowB (rAt rs i) w = false) : ∀ {n : Nat}, i < n → regTo rs w n = false
  | 0, hn => by omega
  | n + 1, hn => by
    rw [regTo]
    by_cases hi : i = n
    · rw [← hi, h, Bool.and_false]
    · rw [regTo_false h0 h (n := n) (by omega), Bool.false_and]
theorem regTo_true {rs : List RowD} {w : Int} : ∀ {n : Nat}, (∀ j : Int, 0 ≤ j → j < n → rowB (rAt rs j) w = true) → regTo rs w n = true
  | 0, _ => rfl
  | n + 1, h => by rw [regTo, regTo_true (n := n) fun j a b => h j a (by omega), h n (by omega) (by omega)]; rfl
theorem regTo_all {rs : List RowD} {w : Int} : ∀ {n : Nat}, regTo rs w n = true → ∀ j : Int, 0 ≤ j → j < n → rowB (rAt rs j) w = true
  | 0, _, j, a, b => by omega
  | n + 1, h, j, a, b => by
    rw [regTo, Bool.and_eq_true] at h
    rcases Int.lt_or_eq_of_le (show j ≤ n by omega) with hl | hl
    · exact regTo_all h.1 j a hl
    · rw [hl]; exact h.2
theorem spanN_pos (c : CellD) : 1 ≤ spanN c := by unfold spanN; omega
theorem empty_iff (r : RowD) (k : Int) (h0 : 0 ≤ k) (h1 : k < r.cells.length) : (sAt (spansR r) k).1 = (sAt (spansR r) k).2 ↔ spTo r k = 32 := by
  have := spanN_pos (cAt r.cells k)
  have h2 := sp_range r k h0 (by omega)
  rw [sAt_step r k h0 h1]
  dsimp only
  omega
/-- a cell without columns: the last one has none -/
theorem empty_last (r : RowD) (k : Int) (h0 : 0 ≤ k) (h1 : k < r.cells.length) (h : (sAt (spansR r) k).1 = (sAt (spansR r) k).2) : (sAt (spansR r) (r.cells.length - 1)).1 = (sAt (spansR r) (r.cells.length - 1)).2 := by
  have h2 := (empty_iff r k h0 h1).1 h
  have h3 := spTo_monoD r k h0 (r.cells.length - 1 - k).toNat (by omega)
  rw [show k + ((r.cells.length - 1 - k).toNat : Int) = r.cells.length - 1 by omega] at h3
  have h4 := sp_range r (r.cells.length - 1) (by omega) (by omega)
  exact (empty_iff r _ (by omega) (by omega)).2 (by omega)
/-! ### areas -/
def areaQ (q : R6) : Int := (q.bottom - q.top) * (q.right - q.left)
def sumA (l : List R6) : Int := (l.map areaQ).sum
def sumTo (l : List R6) : Nat → Int
  | 0 => 0
  | k + 1 => sumTo l k + areaQ (qAt l k)
theorem sumA_snoc (l : List R6) (q : R6) : sumA (l ++ [q]) = sumA l + areaQ q := by simp [sumA]
theorem sumTo_take (l : List R6) : ∀ k, k ≤ l.length → sumTo l k = sumA (l.take k)
  | 0, _ => by simp [sumTo, sumA]
  | k + 1, h => by
    rw [sumTo, sumTo_take l k (by omega), List.take_succ_eq_append_getElem (show k < l.length by omega), sumA_snoc]
    congr 2
    simp [qAt, show k < l.length by omega]
theorem sumTo_eq (l : List R6) : sumTo l l.length = sumA l := by rw [sumTo_take l l.length (Nat.le_refl _), List.take_of_length_le (Nat.le_refl _)]
theorem sumTo_step (l : List R6) (k : Int) (h : 0 ≤ k) : sumTo l (k + 1).toNat = sumTo l k.toNat + areaQ (qAt l k) := by
  rw [show (k + 1).toNat = k.toNat + 1 by omega, sumTo, show ((k.toNat : Nat) : Int) = k by omega]
theorem sumA_set (l : List R6) (n b : Int) (h0 : 0 ≤ n) (h1 : n < l.length) : sumA (setBot l n b) = sumA l + (b - (qAt l n).bottom) * ((qAt l n).right - (qAt l n).left) := by
  have key : ∀ (l : List R6) (n : Nat), n < l.length → ∀ q : R6, sumA (l.set n q) = sumA l + (areaQ q - areaQ (l.getD n q0)) := by
    intro l
    induction l with
    | nil => intro n h; simp at h
    | cons a l ih =>
      intro n h q
      cases n with
      | zero => simp [sumA]; omega
      | succ n =>
        have := ih n (by simpa using h) q
        simp only [sumA, List.set_cons_succ, List.map_cons, List.sum_cons, List.getD_cons_succ] at this ⊢
        omega
  have := key l n.toNat (by omega) { qAt l n with bottom := b }
  unfold setBot
  rw [this]
  have e : l.getD n.toNat q0 = qAt l n := rfl
  rw [e]
  unfold areaQ
  simp only
  rw [← Int.sub_mul]
  congr 2
  omega
theorem sum_cell {rs : List RowD} {i kk : Nat} {st : List R6 × PM × PM} {opn : PM} (h : Inv rs i kk st) (ho : Opn rs i st.2.1 opn) (hi : i < rs.length) (hk : kk < ncN rs i) :
    sumA (layCell i opn st kk (spN rs i kk) (cAt (rAt rs i).cells kk)).1 = sumA st.1 + ((spN rs i kk).2 - (spN rs i kk).1) := by
  unfold layCell
  split
  · rename_i he; omega
  · rename_i hne
    have hv : Val rs i kk := ⟨by omega, by omega, by omega, by omega, hne⟩
    split
    · rename_i hc
      obtain ⟨n, hn⟩ := Option.isSome_iff_exists.1 hc.1
      simp only [hn, Option.getD_some]
      obtain ⟨k', a, b, c, d⟩ := (ho _ n hne).1 hn
      obtain ⟨n', e1, e2, e3, e4⟩ := h.A _ k' a (.inl (by omega))
      rw [d] at e1
      obtain rfl : n = n' := by simpa using e1
      rw [b] at e4
      have r := h.C n e2 e3
      have hbot : (qAt st.1 n).bottom = i := by
        rcases r.last with hl | ⟨hl, k2, x, y, z⟩
        · have := e4.2.2; omega
        · have := Val.inj y hv (z.trans e4.1); omega
      rw [sumA_set _ _ _ e2 e3, hbot]
      have f1 : (qAt st.1 n).left = (spN rs i kk).1 := congrArg Prod.fst e4.1
      have f2 : (qAt st.1 n).right = (spN rs i kk).2 := congrArg Prod.snd e4.1
      rw [f1, f2, show (i : Int) + 1 - i = 1 by omega, Int.one_mul]
    · rw [sumA_snoc]
      unfold areaQ
      simp only
      rw [show (i : Int) + 1 - i = 1 by omega, Int.one_mul]
theorem sum_upto {rs : List RowD} {i : Nat} {st : List R6 × PM × PM} {opn : PM} (h : Inv rs i 0 st) (ho : Opn rs i st.2.1 opn) (hi : i < rs.length) : ∀ kk, kk ≤ ncN rs i → sumA (layUpto i opn (rAt rs i) st kk).1 = sumA st.1 + spTo (rAt rs i) kk
  | 0, _ => by simp [layUpto, spTo]
  | kk + 1, hk => by
    have ih := sum_upto h ho hi kk (by omega)
    obtain ⟨h1, h2⟩ := Inv.upto h ho hi kk (by omega)
    have h3 := sum_cell h1 h2 hi (by omega)
    have h4 := sAt_eq (rAt rs i) kk (by omega) (by unfold ncN at hk; omega)
    rw [layUpto]
    show sumA (layCell i opn _ kk (spN rs i kk) _).1 = _
    rw [h3, ih]
    unfold spN
    rw [h4]
    simp only [Int.natCast_add, Int.cast_ofNat_Int]
    omega
def rowsW (rs : List RowD) : Nat → Int
  | 0 => 0
  | i + 1 => rowsW rs i + spTo (rAt rs i) (ncN rs i)
theorem sum_rows (rs : List RowD) : ∀ i, i ≤ rs.length → sumA (layRows rs i).1 = rowsW rs i
  | 0, _ => rfl
  | i + 1, hi => by
    obtain ⟨h1, h2⟩ := lay_inv rs i (by omega)
    have h3 := sum_upto h1 h2 (by omega) (ncN rs i) (Nat.le_refl _)
    have hrow : layRows rs (i + 1) = layUpto i (layRows rs i).2.2 (rAt rs i) ((layRows rs i).1, (layRows rs i).2.1, []) (ncN rs i) := rfl
    rw [hrow, h3, rowsW, sum_rows rs i (by omega)]
theorem rowsW_reg {rs : List RowD} {w : Int} : ∀ {n : Nat}, regTo rs w n = true → rowsW rs n = n * w
  | 0, _ => by simp [rowsW]
  | n + 1, h => by
    rw [regTo, Bool.and_eq_true] at h
    have h1 := rowsW_reg h.1
    have h2 := (of_decide_eq_true h.2).2
    rw [rowsW, h1]
    unfold ncN
    rw [h2]
    have : ((n + 1 : Nat) : Int) * w = n * w + w := by rw [Int.natCast_add, Int.add_mul]; simp
    omega
theorem area_reg {rs : List RowD} {w : Int} (h : regTo rs w rs.length = true) : sumTo (layRects rs) (layRects rs).length = rs.length * w := by
  rw [sumTo_eq]
  exact (sum_rows rs rs.length (Nat.le_refl _)).trans (rowsW_reg h)
/-- bounds, for the machine's numbers -/
theorem area_bound {rs : List RowD} (hl : rs.length ≤ 2000) (k : Int) (h0 : 0 ≤ k) (h1 : k < (layRects rs).length) : 0 ≤ (qAt (layRects rs) k).top ∧ (qAt (layRects rs) k).top ≤ (qAt (layRects rs) k).bottom ∧ (qAt (layRects rs) k).bottom ≤ 2001 ∧ 0 ≤ (qAt (layRects rs) k).left ∧ (qAt (layRects rs) k).left ≤ (qAt (layRects rs) k).right ∧ (qAt (layRects rs) k).right ≤ 32 ∧ 0 ≤ areaQ (qAt (layRects rs) k) ∧ areaQ (qAt (layRects rs) k) ≤ 64032 := by
  have r := (lay_final rs).C k h0 h1
  have e := sAt_le (rAt rs (qAt (layRects rs) k).row) (qAt (layRects rs) k).cell r.val.2.2.1 r.val.2.2.2.1
  have es : sAt (spansR (rAt rs (qAt (layRects rs) k).row)) (qAt (layRects rs) k).cell = _ := r.sp
  rw [es] at e
  simp only at e
  have ht : (qAt (layRects rs) k).top = (qAt (layRects rs) k).row := r.top
  have hrb : (qAt (layRects rs) k).row < (qAt (layRects rs) k).bottom := r.rb
  have hrow : 0 ≤ (qAt (layRects rs) k).row := r.val.1
  have hb : (qAt (layRects rs) k).bottom ≤ 2001 := by
    rcases r.last with h | ⟨h, _⟩
    · have h' : (qAt (layRects rs) k).bottom ≤ rs.length := h; omega
    · have h' : (qAt (layRects rs) k).bottom = rs.length + 1 := h; omega
  refine ⟨by omega, by omega, hb, e.1, e.2.1, e.2.2, ?_, ?_⟩
  · unfold areaQ; exact Int.mul_nonneg (by omega) (by omega)
  · unfold areaQ
    calc ((qAt (layRects rs) k).bottom - (qAt (layRects rs) k).top) * ((qAt (layRects rs) k).right - (qAt (layRects rs) k).left) ≤ 2001 * ((qAt (layRects rs) k).right - (qAt (layRects rs) k).left) := Int.mul_le_mul_of_nonneg_right (by omega) (by omega)
      _ ≤ 64032 := by omega
theorem sumTo_bound {rs : List RowD} (hl : rs.length ≤ 2000) : ∀ (k : Nat), k ≤ (layRects rs).length → 0 ≤ sumTo (layRects rs) k ∧ sumTo (layRects rs) k ≤ 64032 * k
  | 0, _ => ⟨Int.le_refl _, Int.le_refl _⟩
  | k + 1, h => by
    have h1 := sumTo_bound hl k (by omega)
    have h2 := (area_bound hl (k : Int) (by omega) (by omega)).2.2.2.2.2.2
    rw [sumTo]; omega
end Go.Ob
