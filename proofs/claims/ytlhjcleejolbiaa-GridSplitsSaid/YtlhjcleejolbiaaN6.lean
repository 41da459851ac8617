import Derived.Test.YtlhjcleejolbiaaC3
set_option linter.unusedVariables false
set_option linter.unusedSimpArgs false
namespace Go.Ob
open Go.Proofs
/-! ### the rows of a rectangle -/
theorem rect_row {rs : List RowD} {i k : Int} (h : Val rs i k) (j : Int) (h1 : (rectN rs i k).top ≤ j) (h2 : j < (rectN rs i k).bottom) : ∃ k', Val rs j k' ∧ spN rs j k' = spN rs i k := by
  obtain ⟨i0, i1, _, _, _⟩ := id h
  obtain ⟨t1, t2, t3⟩ := topN_spec rs (spN rs i k) i.toNat (by omega)
  obtain ⟨b1, b2, b3, b4⟩ := botN_spec rs (spN rs i k) (rs.length - (i.toNat + 1)) (i.toNat + 1) (by omega)
  have h1' : ((topN rs (spN rs i k) i.toNat : Nat) : Int) ≤ j := h1
  have h2' : j < ((botN rs (spN rs i k) (i.toNat + 1) (rs.length - (i.toNat + 1)) : Nat) : Int) := h2
  have ofCS : ∀ j, CS rs (spN rs i k) j → ∃ k', Val rs j k' ∧ spN rs j k' = spN rs i k := fun j hc => by
    obtain ⟨a, b, c, d, _⟩ := hc
    exact ⟨a, c, d⟩
  rcases Int.lt_trichotomy j i with hj | hj | hj
  · by_cases ht : ((topN rs (spN rs i k) i.toNat : Nat) : Int) = j
    · obtain ⟨a, b, _, _, _, c, d, _⟩ := t2 (j + 1) (by omega) (by omega)
      rw [show j + 1 - 1 = j by omega] at c d
      exact ⟨b, c, d⟩
    · exact ofCS j (t2 j (by omega) (by omega))
  · subst hj; exact ⟨k, h, rfl⟩
  · exact ofCS j (b2 j (by omega) (by omega))
theorem rect_range {rs : List RowD} {i k : Int} (h : Val rs i k) : 0 ≤ (rectN rs i k).top ∧ (rectN rs i k).top ≤ i ∧ i < (rectN rs i k).bottom ∧ (rectN rs i k).bottom ≤ rs.length ∧ 0 ≤ (rectN rs i k).left ∧ (rectN rs i k).left < (rectN rs i k).right ∧ (rectN rs i k).right ≤ 32 ∧ (rectN rs i k).left = (spN rs i k).1 ∧ (rectN rs i k).right = (spN rs i k).2 := by
  obtain ⟨i0, i1, k0, k1, hne⟩ := id h
  obtain ⟨t1, t2, t3⟩ := topN_spec rs (spN rs i k) i.toNat (by omega)
  obtain ⟨b1, b2, b3, b4⟩ := botN_spec rs (spN rs i k) (rs.length - (i.toNat + 1)) (i.toNat + 1) (by omega)
  have hs := sAt_le (rAt rs i) k k0 k1
  have hlt := h.lt
  unfold spN at hlt
  refine ⟨?_, ?_, ?_, ?_, hs.1, hlt, hs.2.2, rfl, rfl⟩
  · show (0 : Int) ≤ ((topN rs (spN rs i k) i.toNat : Nat) : Int); omega
  · show ((topN rs (spN rs i k) i.toNat : Nat) : Int) ≤ i; omega
  · show i < ((botN rs (spN rs i k) (i.toNat + 1) (rs.length - (i.toNat + 1)) : Nat) : Int); omega
  · show ((botN rs (spN rs i k) (i.toNat + 1) (rs.length - (i.toNat + 1)) : Nat) : Int) ≤ rs.length; omega
theorem idxS_val {rs : List RowD} {j k : Int} (h : Val rs j k) : idxS (spansR (rAt rs j)) (spN rs j k) = k := by
  have hl : (spansR (rAt rs j)).length = (rAt rs j).cells.length := spansFrom_len _ _
  refine firstIdx_at h.2.2.1 (decide_eq_true rfl) (fun a b c => ?_) (by rw [hl]; exact h.2.2.2.1)
  rw [decide_eq_false_iff_not]
  intro e
  have := sAt_inj (r := rAt rs j) (j := a) (k := k) b (by have := h.2.2.2.1; unfold ncN at this; omega) h.2.2.1 h.2.2.2.1 e h.2.2.2.2
  omega
/-! ### a rectangle divided -/
def freshC (id : Int) : CellD := ⟨.v (.int .i64 id), [], .v (.int .i64 0), .v (.int .i64 0), .sl 2 [], .sl 4 [], []⟩
def clrC (c : CellD) : CellD := { c with props := clearP (clearP c.props 60) 61 }
def newC (f : Int) (w : Nat) : List CellD := (List.range w).map fun (j : Nat) => freshC (f + j)
theorem newC_len (f : Int) (w : Nat) : (newC f w).length = w := by simp [newC]
theorem newC_snoc (f : Int) (w : Nat) : encCs (newC f (w + 1)) = encCs (newC f w) ++ [encC (freshC (f + w))] := by simp [newC, encCs, List.range_succ]
def splR (r : RowD) (k : Nat) (f : Int) (w : Nat) : RowD := { r with cells := r.cells.take k ++ [clrC (cAt r.cells (k : Nat))] ++ newC f w ++ r.cells.drop (k + 1) }
def wQ (q : R6) : Nat := (q.right - q.left - 1).toNat
def fQ (q : R6) (fresh : Int) (j : Int) : Int := fresh + (j - q.top) * (wQ q : Nat)
def splI (rs : List RowD) (q : R6) (fresh : Int) (j : Int) : RowD := splR (rAt rs j) (idxS (spansR (rAt rs j)) (q.left, q.right)).toNat (fQ q fresh j) (wQ q)
def splT (rs : List RowD) (q : R6) (fresh : Int) : List RowD := (List.range rs.length).map fun (j : Nat) => if q.top ≤ (j : Int) ∧ (j : Int) < q.bottom then splI rs q fresh (j : Nat) else rAt rs (j : Nat)
def vAt (vs : List Value) (j : Nat) : Value := vs.getD j (.bool false)
def rowsX (rs : List RowD) (vs : List Value) (q : R6) (fresh : Int) (i : Nat) : List (List D) := (List.range rs.length).map fun (j : Nat) => if q.top ≤ (j : Int) ∧ j < i then encR (splI rs q fresh (j : Nat)) else encRv (rAt rs (j : Nat)) (vAt vs j)
theorem rowsX_len (rs : List RowD) (vs : List Value) (q : R6) (fresh : Int) (i : Nat) : (rowsX rs vs q fresh i).length = rs.length := by simp [rowsX]
theorem rowsX_at (rs : List RowD) (vs : List Value) (q : R6) (fresh : Int) (i : Nat) (h : i < rs.length) : (rowsX rs vs q fresh i)[i]? = some (encRv (rAt rs (i : Nat)) (vAt vs i)) := by
  simp [rowsX, h]
theorem rowsX_step (rs : List RowD) (vs : List Value) (q : R6) (fresh : Int) (i : Nat) (h : i < rs.length) (ht : q.top ≤ (i : Int)) : rowsX rs vs q fresh (i + 1) = (rowsX rs vs q fresh i).set i (encR (splI rs q fresh (i : Nat))) := by
  apply List.ext_getElem (by simp [rowsX])
  intro j h1 h2
  have hj : j < rs.length := by rw [rowsX_len] at h1; exact h1
  rw [List.getElem_set]
  by_cases he : i = j
  · subst he
    rw [if_pos rfl]
    simp [rowsX, ht]
  · rw [if_neg he]
    simp only [rowsX, List.getElem_map, List.getElem_range]
    by_cases hc : q.top ≤ (j : Int) ∧ j < i
    · rw [if_pos hc, if_pos ⟨hc.1, by omega⟩]
    · rw [if_neg hc, if_neg (fun h => hc ⟨h.1, by omega⟩)]
theorem rowsX_start (rs : List RowD) (vs : List Value) (q : R6) (fresh : Int) (i : Nat) (hq : q.top = (i : Int)) (hv : vs.length = rs.length) : rowsX rs vs q fresh i = outX rs vs := by
  apply List.ext_getElem (by simp [rowsX, outX, hv])
  intro j h1 h2
  have hj : j < rs.length := by rw [rowsX_len] at h1; exact h1
  simp only [rowsX, outX, List.getElem_map, List.getElem_range, List.getElem_zipWith]
  rw [if_neg (by omega)]
  simp [rAt, vAt, hj, show j < vs.length by omega]
theorem inB_drop (rs : List RowD) (vs : List Value) (i : Nat) (h : i < rs.length) (hv : vs.length = rs.length) : inB (rs.drop i) (vs.drop i) = Blk.row (vAt vs i) 74 7 (encCs (rAt rs (i : Nat)).cells) :: inB (rs.drop (i + 1)) (vs.drop (i + 1)) := by
  have hv2 : i < vs.length := by omega
  have e1 : rAt rs (i : Nat) = rs[i] := by simp [rAt, h]
  have e2 : vAt vs i = vs[i] := by simp [vAt, hv2]
  rw [e1, e2]
  unfold inB
  rw [List.drop_eq_getElem_cons h, List.drop_eq_getElem_cons hv2, List.zipWith_cons_cons]
theorem inB_split (rs : List RowD) (vs : List Value) (i : Nat) (hv : vs.length = rs.length) : inB rs vs = inB (rs.take i) (vs.take i) ++ inB (rs.drop i) (vs.drop i) := by
  conv => lhs; rw [← List.take_append_drop i rs, ← List.take_append_drop i vs]
  unfold inB
  rw [List.zipWith_append (by rw [List.length_take, List.length_take]; omega)]
theorem inB_mem (rs : List RowD) (vs : List Value) (j : Nat) (h : j < rs.length) (hv : vs.length = rs.length) {a b : Nat} (hj : j < a ∨ b ≤ j) : Blk.row (vAt vs j) 74 7 (encCs (rAt rs (j : Nat)).cells) ∈ inB (rs.drop b) (vs.drop b) ++ inB (rs.take a) (vs.take a) := by
  have key : ∀ (rs : List RowD) (vs : List Value) (j : Nat), j < rs.length → vs.length = rs.length → Blk.row (vAt vs j) 74 7 (encCs (rAt rs (j : Nat)).cells) ∈ inB rs vs := fun rs vs j h hv => by
    rw [inB_split rs vs j hv, inB_drop rs vs j h hv]; simp
  rcases hj with hj | hj
  · refine List.mem_append_right _ ?_
    have := key (rs.take a) (vs.take a) j (by rw [List.length_take]; omega) (by rw [List.length_take, List.length_take]; omega)
    have e1 : rAt (rs.take a) (j : Nat) = rAt rs (j : Nat) := by
      unfold rAt
      rw [Int.toNat_natCast, List.getD_eq_getElem?_getD, List.getD_eq_getElem?_getD, List.getElem?_take_of_lt hj]
    have e2 : vAt (vs.take a) j = vAt vs j := by
      unfold vAt
      rw [List.getD_eq_getElem?_getD, List.getD_eq_getElem?_getD, List.getElem?_take_of_lt hj]
    rwa [e1, e2] at this
  · refine List.mem_append_left _ ?_
    have := key (rs.drop b) (vs.drop b) (j - b) (by rw [List.length_drop]; omega) (by rw [List.length_drop, List.length_drop]; omega)
    have e1 : rAt (rs.drop b) ((j - b : Nat) : Int) = rAt rs (j : Nat) := by
      unfold rAt
      rw [Int.toNat_natCast, Int.toNat_natCast, List.getD_eq_getElem?_getD, List.getD_eq_getElem?_getD, List.getElem?_drop, show b + (j - b) = j by omega]
    have e2 : vAt (vs.drop b) (j - b) = vAt vs j := by
      unfold vAt
      rw [List.getD_eq_getElem?_getD, List.getD_eq_getElem?_getD, List.getElem?_drop, show b + (j - b) = j by omega]
    rwa [e1, e2] at this
theorem splT_len (rs : List RowD) (q : R6) (fresh : Int) : (splT rs q fresh).length = rs.length := by simp [splT]
theorem FrzR.rows {M : Blk → Prop} {v : Value} {e es : Nat} {xs xs' : List (List D)} (hm : M (.row v e es xs)) (hes : 0 < es) (hl : xs.length = xs'.length) (h1 : ∀ x ∈ xs, x.length = es) (h2 : ∀ x ∈ xs', x.length = es)
    (h : ∀ (i r : Nat) (x x' : List D) (d d' : D), xs[i]? = some x → xs'[i]? = some x' → x[r]? = some d → x'[r]? = some d' → FrzR M d d') : FrzR M (.v v) (.sl es xs') := by
  have key : ∀ (ys : List (List D)), (∀ y ∈ ys, y.length = es) → ∀ (j : Nat) (d : D), ys.flatten[j]? = some d → ∃ y, ys[j / es]? = some y ∧ y[j % es]? = some d := by
    intro ys
    induction ys with
    | nil => intro _ j d hd; simp at hd
    | cons y ys ih =>
      intro hy j d hd
      rw [List.flatten_cons] at hd
      have hyl := hy y (by simp)
      by_cases hj : j < es
      · rw [List.getElem?_append_left (by omega)] at hd
        exact ⟨y, by rw [Nat.div_eq_of_lt hj]; rfl, by rw [Nat.mod_eq_of_lt hj]; exact hd⟩
      · rw [List.getElem?_append_right (by omega), hyl] at hd
        obtain ⟨z, hz1, hz2⟩ := ih (fun z hz => hy z (by simp [hz])) _ _ hd
        have e1 : j / es = (j - es) / es + 1 := by rw [← Nat.sub_add_cancel (show es ≤ j by omega), Nat.add_div_right _ hes, Nat.add_sub_cancel]
        have e2 : j % es = (j - es) % es := (Nat.mod_eq_sub_mod (by omega))
        exact ⟨z, by rw [e1]; exact hz1, by rw [e2]; exact hz2⟩
  refine .row v e es xs xs' hm hes hl h2 fun j d d' hd hd' => ?_
  obtain ⟨x, hx1, hx2⟩ := key xs h1 j d hd
  obtain ⟨x', hx1', hx2'⟩ := key xs' h2 j d' hd'
  exact h _ _ x x' d d' hx1 hx1' hx2 hx2'
theorem encR_len (r : RowD) : (encR r).length = 6 := rfl
theorem split_frz (rs : List RowD) (vs : List Value) (q : R6) (fresh : Int) (T B : Nat) (v : Value) (hv : vs.length = rs.length) (hT : q.top = (T : Int)) (hB : q.bottom = (B : Int)) (hBl : B ≤ rs.length) :
    FrzR (· ∈ (Blk.row v 36 6 (rowsX rs vs q fresh B) :: (inB (rs.drop B) (vs.drop B) ++ inB (rs.take T) (vs.take T)) : Hp)) (.v v) (.sl 6 (encRs (splT rs q fresh))) := by
  refine FrzR.rows (es := 6) List.mem_cons_self (by decide) (by rw [rowsX_len, encRs_len, splT_len]) (fun x hx => ?_) (encRs_each _) fun i r x x' d d' h1 h2 h3 h4 => ?_
  · simp only [rowsX, List.mem_map] at hx
    obtain ⟨j, _, rfl⟩ := hx
    split <;> rfl
  · have hi : i < rs.length := by
      have := (List.getElem?_eq_some_iff.1 h1).1
      rwa [rowsX_len] at this
    simp only [rowsX, encRs, splT, List.getElem?_map, List.getElem?_range hi, Option.map_some, Option.some.injEq] at h1 h2
    by_cases hc : q.top ≤ (i : Int) ∧ i < B
    · rw [if_pos hc] at h1
      rw [if_pos ⟨hc.1, by omega⟩] at h2
      subst h1; subst h2
      rw [h3] at h4; cases h4; exact .same _
    · rw [if_neg hc] at h1
      rw [if_neg (fun h => hc ⟨h.1, by omega⟩)] at h2
      subst h1; subst h2
      match r with
      | 0 => cases h3; cases h4; exact .same _
      | 1 => cases h3; cases h4; exact .same _
      | 2 => cases h3; cases h4; exact .same _
      | 3 => cases h3; cases h4; exact .same _
      | 4 => cases h3; cases h4; exact .same _
      | 5 =>
        cases h3; cases h4
        exact .rowS (List.mem_cons_of_mem _ (inB_mem rs vs i hi hv (by omega))) (by decide) (encCs_each _)
      | r + 6 => simp [encRv] at h3
end Go.Ob
