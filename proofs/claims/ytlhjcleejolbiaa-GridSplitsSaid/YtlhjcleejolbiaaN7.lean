import Derived.Test.YtlhjcleejolbiaaC6
import Derived.Test.YtlhjcleejolbiaaN4
import Derived.Test.YtlhjcleejolbiaaW7
set_option linter.unusedVariables false
set_option linter.unusedSimpArgs false
namespace Go.Ob
open Go.Proofs
/-! ### a divided row: its columns -/
def endF : Int → List CellD → Int
  | k, [] => k
  | k, c :: cs => endF (k + min (spanN c) (32 - k)) cs
theorem spansFrom_append : ∀ (a b : List CellD) (k : Int), spansFrom k (a ++ b) = spansFrom k a ++ spansFrom (endF k a) b
  | [], b, k => rfl
  | c :: a, b, k => by simp [spansFrom, endF, spansFrom_append a b]
theorem sAt_pre (a b : List CellD) (k : Int) (j : Nat) : sAt (spansFrom k (a ++ b)) ((a.length + j : Nat) : Int) = sAt (spansFrom (endF k a) b) (j : Nat) := by
  unfold sAt
  rw [spansFrom_append, Int.toNat_natCast, Int.toNat_natCast, List.getD_eq_getElem?_getD, List.getD_eq_getElem?_getD, List.getElem?_append_right (by rw [spansFrom_len]; omega), spansFrom_len, Nat.add_sub_cancel_left]
theorem sAt_unit : ∀ (u v : List CellD) (k : Int), (∀ c ∈ u, spanN c = 1) → k + u.length ≤ 32 → ∀ (j : Nat), j < u.length → sAt (spansFrom k (u ++ v)) (j : Nat) = (k + j, k + j + 1)
  | [], v, k, _, _, j, hj => by simp at hj
  | c :: u, v, k, h1, h2, j, hj => by
    simp only [List.length_cons] at h2 hj
    have hc := h1 c (by simp)
    have hm : min (spanN c) (32 - k) = 1 := by rw [hc]; omega
    cases j with
    | zero => simp [sAt, spansFrom, hm]
    | succ j =>
      have ih := sAt_unit u v (k + 1) (fun c hc => h1 c (by simp [hc])) (by omega) j (by omega)
      have e : sAt (spansFrom k ((c :: u) ++ v)) ((j + 1 : Nat) : Int) = sAt (spansFrom (k + 1) (u ++ v)) (j : Nat) := by
        unfold sAt
        rw [Int.toNat_natCast, Int.toNat_natCast]
        simp [spansFrom, hm]
      rw [e, ih]
      refine Prod.ext ?_ ?_ <;> simp <;> omega
theorem endF_of (cs : List CellD) (n : Nat) (h : n < cs.length) : endF 0 (cs.take n) = (sAt (spansFrom 0 cs) (n : Nat)).1 := by
  have e := sAt_pre (cs.take n) (cs.drop n) 0 0
  rw [List.take_append_drop, List.length_take, show min n cs.length + 0 = n by omega] at e
  rw [e, List.drop_eq_getElem_cons h]
  simp [sAt, spansFrom]
theorem getP_not {ps : List (Int × Int)} {key : Int} (h : ∀ p ∈ ps, p.1 ≠ key) (d : Int) : getP ps key d = d := by
  induction ps with
  | nil => rfl
  | cons p ps ih =>
    unfold getP
    rw [if_neg (h p (by simp))]
    exact ih fun q hq => h q (by simp [hq])
theorem clr_not60 (ps : List (Int × Int)) : ∀ p ∈ clearP (clearP ps 60) 61, p.1 ≠ 60 := by
  intro p hp
  have := (List.mem_filter.1 (List.mem_filter.1 hp).1).2
  simpa using this
theorem clr_not61 (ps : List (Int × Int)) : ∀ p ∈ clearP (clearP ps 60) 61, p.1 ≠ 61 := by
  intro p hp
  have := (List.mem_filter.1 hp).2
  simpa using this
def UnitC (c : CellD) : Prop := spanN c = 1 ∧ getP c.props 61 0 = 0
theorem clrC_unit (c : CellD) : UnitC (clrC c) := by
  unfold UnitC spanN clrC
  dsimp only
  rw [getP_not (clr_not60 c.props), getP_not (clr_not61 c.props)]
  exact ⟨rfl, rfl⟩
theorem freshC_unit (f : Int) : UnitC (freshC f) := ⟨rfl, rfl⟩
/-- the cells of one column -/
def unitsC (c : CellD) (f : Int) (w : Nat) : List CellD := clrC c :: newC f w
theorem units_unit (c : CellD) (f : Int) (w : Nat) : ∀ x ∈ unitsC c f w, UnitC x := by
  intro x hx
  rcases List.mem_cons.1 hx with h | h
  · rw [h]; exact clrC_unit c
  · obtain ⟨j, _, rfl⟩ := List.mem_map.1 h
    exact freshC_unit _
theorem splR_units (r : RowD) (k : Nat) (f : Int) (w : Nat) : (splR r k f w).cells = r.cells.take k ++ (unitsC (cAt r.cells (k : Nat)) f w ++ r.cells.drop (k + 1)) := by
  simp [splR, unitsC]
theorem splR_col {r : RowD} {k : Nat} {f : Int} {w : Nat} (hk : k < r.cells.length) (hw : (sAt (spansR r) (k : Nat)).1 + (w + 1 : Nat) ≤ 32) (j : Nat) (hj : j < w + 1) :
    sAt (spansR (splR r k f w)) ((k + j : Nat) : Int) = ((sAt (spansR r) (k : Nat)).1 + j, (sAt (spansR r) (k : Nat)).1 + j + 1) ∧ UnitC (cAt (splR r k f w).cells ((k + j : Nat) : Int)) ∧ k + j < (splR r k f w).cells.length := by
  have hl : (r.cells.take k).length = k := by rw [List.length_take]; omega
  have hu : (unitsC (cAt r.cells (k : Nat)) f w).length = w + 1 := by simp [unitsC, newC_len]
  unfold spansR
  rw [splR_units]
  refine ⟨?_, ?_, ?_⟩
  · have e := sAt_pre (r.cells.take k) (unitsC (cAt r.cells (k : Nat)) f w ++ r.cells.drop (k + 1)) 0 j
    rw [hl] at e
    rw [e, endF_of r.cells k hk]
    exact sAt_unit _ _ _ (fun c hc => (units_unit _ _ _ c hc).1) (by rw [hu]; exact hw) j (by omega)
  · have e : cAt (r.cells.take k ++ (unitsC (cAt r.cells (k : Nat)) f w ++ r.cells.drop (k + 1))) ((k + j : Nat) : Int) = (unitsC (cAt r.cells (k : Nat)) f w)[j]'(by omega) := by
      show (r.cells.take k ++ (unitsC (cAt r.cells (k : Nat)) f w ++ r.cells.drop (k + 1))).getD ((k + j : Nat) : Int).toNat cell0 = _
      rw [Int.toNat_natCast, List.getD_eq_getElem?_getD, List.getElem?_append_right (by omega), hl, Nat.add_sub_cancel_left, List.getElem?_append_left (by omega), List.getElem?_eq_getElem (by omega)]
      rfl
    rw [e]
    exact units_unit _ _ _ _ (List.getElem_mem _)
  · simp only [List.length_append, hl, hu]; omega
/-! ### a cell that is merged with none -/
theorem unit_rect {rs : List RowD} {i k : Int} (hv : Val rs i k) (hm : mgN rs i k = 0) : (rectN rs i k).top = i ∧ (rectN rs i k).bottom = i + 1 ∧ (rectN rs i k).left = (spN rs i k).1 ∧ (rectN rs i k).right = (spN rs i k).2 := by
  obtain ⟨i0, i1, _, _, _⟩ := id hv
  obtain ⟨t1, t2, t3⟩ := topN_spec rs (spN rs i k) i.toNat (by omega)
  obtain ⟨b1, b2, b3, b4⟩ := botN_spec rs (spN rs i k) (rs.length - (i.toNat + 1)) (i.toNat + 1) (by omega)
  have n1 : ¬ CS rs (spN rs i k) i := fun ⟨k1, _, a, b, c, _⟩ => by
    obtain rfl := Val.inj a hv b
    omega
  have n2 : ¬ CS rs (spN rs i k) (i + 1) := fun ⟨_, k1, _, _, _, a, b, c⟩ => by
    rw [show i + 1 - 1 = i by omega] at a b c
    obtain rfl := Val.inj a hv b
    omega
  refine ⟨?_, ?_, rfl, rfl⟩
  · show ((topN rs (spN rs i k) i.toNat : Nat) : Int) = i
    by_cases h : ((topN rs (spN rs i k) i.toNat : Nat) : Int) < i
    · exact absurd (t2 i h (by omega)) n1
    · omega
  · show ((botN rs (spN rs i k) (i.toNat + 1) (rs.length - (i.toNat + 1)) : Nat) : Int) = i + 1
    by_cases h : i + 1 < ((botN rs (spN rs i k) (i.toNat + 1) (rs.length - (i.toNat + 1)) : Nat) : Int)
    · exact absurd (b2 (i + 1) (by omega) h) n2
    · omega
theorem splT_row (rs : List RowD) (q : R6) (fresh i : Int) (h0 : 0 ≤ i) (h1 : i < rs.length) : rAt (splT rs q fresh) i = if q.top ≤ i ∧ i < q.bottom then splI rs q fresh i else rAt rs i := by
  have e := splT_at rs q fresh i.toNat (by omega)
  rw [Int.toNat_of_nonneg h0] at e
  show (splT rs q fresh).getD i.toNat row0 = _
  rw [List.getD_eq_getElem?_getD, e]; rfl
/-- every square of the area is a cell of its own -/
theorem split_at {rs : List RowD} {row cell : Int} (hv : Val rs row cell) (fresh i c : Int) (h1 : (rectN rs row cell).top ≤ i) (h2 : i < (rectN rs row cell).bottom) (h3 : (rectN rs row cell).left ≤ c) (h4 : c < (rectN rs row cell).right) :
    atE (splT rs (rectN rs row cell) fresh) i c = 0 ∧ placeE (splT rs (rectN rs row cell) fresh) i (atV (splT rs (rectN rs row cell) fresh) i c) = 0 ∧
    (placeR (splT rs (rectN rs row cell) fresh) i (atV (splT rs (rectN rs row cell) fresh) i c)).top = i ∧ (placeR (splT rs (rectN rs row cell) fresh) i (atV (splT rs (rectN rs row cell) fresh) i c)).left = c ∧
    (placeR (splT rs (rectN rs row cell) fresh) i (atV (splT rs (rectN rs row cell) fresh) i c)).bottom = i + 1 ∧ (placeR (splT rs (rectN rs row cell) fresh) i (atV (splT rs (rectN rs row cell) fresh) i c)).right = c + 1 := by
  obtain ⟨q1, q2, q3, q4, q5, q6, q7, q8, q9⟩ := rect_range hv
  obtain ⟨k, hvk, hks⟩ := rect_row hv i h1 h2
  obtain ⟨kn, rfl⟩ : ∃ kn : Nat, k = (kn : Int) := ⟨k.toNat, by have := hvk.2.2.1; omega⟩
  obtain ⟨i0, i1, _, hkl, _⟩ := id hvk
  have hid : idxS (spansR (rAt rs i)) ((rectN rs row cell).left, (rectN rs row cell).right) = (kn : Int) := by
    rw [show ((rectN rs row cell).left, (rectN rs row cell).right) = spN rs i kn by rw [hks]; exact Prod.ext q8 q9]; exact idxS_val hvk
  have hrow := splT_row rs (rectN rs row cell) fresh i i0 i1
  rw [if_pos ⟨h1, h2⟩] at hrow
  unfold splI at hrow
  rw [hid, Int.toNat_natCast] at hrow
  have hleft : (sAt (spansR (rAt rs i)) (kn : Nat)).1 = (rectN rs row cell).left := by
    have := congrArg Prod.fst hks; rw [q8, ← this]; rfl
  have hw : ((wQ (rectN rs row cell) : Nat) : Int) = (rectN rs row cell).right - (rectN rs row cell).left - 1 := by unfold wQ; omega
  obtain ⟨j, hj⟩ : ∃ j : Nat, c = (rectN rs row cell).left + j := ⟨(c - (rectN rs row cell).left).toNat, by omega⟩
  obtain ⟨s1, s2, s3⟩ := splR_col (r := rAt rs i) (k := kn) (f := fQ (rectN rs row cell) fresh i) (w := wQ (rectN rs row cell)) (by unfold ncN at hkl; omega) (by rw [hleft]; omega) j (by omega)
  rw [← hrow, hleft, ← hj] at s1
  rw [← hrow] at s2 s3
  generalize hm : splT rs (rectN rs row cell) fresh = m at *
  have hml : m.length = rs.length := by rw [← hm]; exact splT_len _ _ _
  have hsp : spN m i ((kn + j : Nat) : Int) = (c, c + 1) := s1
  have hvm : Val m i ((kn + j : Nat) : Int) := ⟨i0, by omega, by omega, by unfold ncN; omega, by rw [hsp]; show c ≠ c + 1; omega⟩
  have hat : atN (rAt m i) c = ((kn + j : Nat) : Int) := atN_cell hvm (by rw [hsp]; show c ≤ c; omega) (by rw [hsp]; show c < c + 1; omega)
  have hin : 0 ≤ i ∧ i < m.length ∧ 0 ≤ c ∧ c < 32 := ⟨i0, by omega, by omega, by omega⟩
  have hV : atV m i c = ((kn + j : Nat) : Int) := by unfold atV; rw [if_pos hin, hat, if_pos (by omega)]
  have hE : atE m i c = 0 := by unfold atE; rw [if_pos hin, hat, if_pos (by omega)]
  obtain ⟨hex, hne⟩ := place_val.1 hvm
  have hmg : mgN m i ((kn + j : Nat) : Int) = 0 := s2.2
  obtain ⟨r1, r2, r3, r4⟩ := unit_rect hvm hmg
  rw [hV]
  have hR : placeR m i ((kn + j : Nat) : Int) = rectN m i ((kn + j : Nat) : Int) := by unfold placeR; rw [if_pos ⟨hex, hne⟩]
  have hP : placeE m i ((kn + j : Nat) : Int) = 0 := by unfold placeE; rw [if_neg (fun e => e hex), if_neg hne]
  rw [hR, hP, hE]
  refine ⟨rfl, rfl, r1, ?_, r2, ?_⟩
  · rw [r3, hsp]
  · rw [r4, hsp]
/-! ### the divided table keeps what was asked of it -/
theorem clrC_ok {c : CellD} (h : CellOk c) : CellOk (clrC c) := by
  have h1 := clearP_len c.props 60
  have h2 := clearP_len (clearP c.props 60) 61
  exact ⟨clearP_inc (clearP_inc h.1 60) 61, by show (clearP (clearP c.props 60) 61).length ≤ 1000000; have := h.2; omega⟩
theorem freshC_ok (f : Int) : CellOk (freshC f) := ⟨List.Pairwise.nil, by show (0 : Nat) ≤ 1000000; omega⟩
theorem splR_mem {r : RowD} {k : Nat} {f : Int} {w : Nat} {c : CellD} (h : c ∈ (splR r k f w).cells) (hk : k < r.cells.length) : c ∈ r.cells ∨ (∃ c0 ∈ r.cells, c = clrC c0) ∨ ∃ f, c = freshC f := by
  rw [splR_units] at h
  rcases List.mem_append.1 h with h | h
  · exact .inl (List.mem_of_mem_take h)
  · rcases List.mem_append.1 h with h | h
    · rcases List.mem_cons.1 h with h | h
      · exact .inr (.inl ⟨_, cAt_mem r.cells (k : Nat) (by omega) (by omega), h⟩)
      · obtain ⟨j, _, rfl⟩ := List.mem_map.1 h
        exact .inr (.inr ⟨_, rfl⟩)
    · exact .inl (List.mem_of_mem_drop h)
theorem splR_len (r : RowD) (k : Nat) (f : Int) (w : Nat) (hk : k < r.cells.length) : (splR r k f w).cells.length = r.cells.length + w := by
  rw [splR_units]
  simp only [List.length_append, List.length_take, List.length_drop, unitsC, List.length_cons, newC_len]; omega
theorem splT_mem {rs : List RowD} {row cell : Int} (hv : Val rs row cell) (fresh : Int) {r : RowD} (h : r ∈ splT rs (rectN rs row cell) fresh) : r ∈ rs ∨ ∃ r0 ∈ rs, ∃ k f, k < r0.cells.length ∧ r = splR r0 k f (wQ (rectN rs row cell)) := by
  obtain ⟨j, hj, rfl⟩ := List.mem_map.1 h
  have hj := List.mem_range.1 hj
  by_cases hc : (rectN rs row cell).top ≤ (j : Int) ∧ (j : Int) < (rectN rs row cell).bottom
  · rw [if_pos hc]
    obtain ⟨q1, q2, q3, q4, q5, q6, q7, q8, q9⟩ := rect_range hv
    obtain ⟨k, hvk, hks⟩ := rect_row hv j hc.1 hc.2
    have hid : idxS (spansR (rAt rs j)) ((rectN rs row cell).left, (rectN rs row cell).right) = k := by
      rw [show ((rectN rs row cell).left, (rectN rs row cell).right) = spN rs j k by rw [hks]; exact Prod.ext q8 q9]; exact idxS_val hvk
    refine .inr ⟨_, rAt_mem rs j (by omega) (by omega), _, _, ?_, rfl⟩
    rw [hid]
    have := hvk.2.2.1; have := hvk.2.2.2.1; unfold ncN at this; omega
  · rw [if_neg hc]; exact .inl (rAt_mem rs j (by omega) (by omega))
theorem wQ_le {rs : List RowD} {row cell : Int} (hv : Val rs row cell) : wQ (rectN rs row cell) ≤ 32 := by
  obtain ⟨q1, q2, q3, q4, q5, q6, q7, q8, q9⟩ := rect_range hv
  unfold wQ; omega
theorem splT_ok {rs : List RowD} {row cell : Int} (hv : Val rs row cell) (fresh : Int) (hr : TabOk rs) (hs : ∀ r ∈ rs, r.cells.length ≤ 900) : TabOk (splT rs (rectN rs row cell) fresh) := by
  refine ⟨fun r h => ?_, by rw [splT_len]; exact hr.2⟩
  rcases splT_mem hv fresh h with h | ⟨r0, h0, k, f, hk, rfl⟩
  · exact hr.1 r h
  · have hl := splR_len r0 k f (wQ (rectN rs row cell)) hk
    have hw := wQ_le hv
    have h9 := hs r0 h0
    refine ⟨fun c hc => ?_, by omega, by omega⟩
    rcases splR_mem hc hk with h | ⟨c0, h, rfl⟩ | ⟨f, rfl⟩
    · exact (hr.1 r0 h0).1 c h
    · exact clrC_ok ((hr.1 r0 h0).1 c0 h)
    · exact freshC_ok f
theorem HeadT.props {a b c d : D} {ps qs : List (Int × Int)} (h : HeadT [.sl 2 (encP ps), a, b, c, d]) (hl : qs.length ≤ ps.length) : HeadT [.sl 2 (encP qs), a, b, c, d] := by
  obtain ⟨ps', a', b', dl, ly, he, h1, h2, h3⟩ := h
  have e := List.cons.inj he
  have e1 : encP ps = encP ps' := by have := e.1; injection this
  have e2 := congrArg List.length e1
  rw [encP_len, encP_len] at e2
  exact ⟨qs, a', b', dl, ly, by rw [e.2], by omega, h2, h3⟩
theorem freshC_T (f : Int) : CellT (freshC f) := ⟨⟨f, rfl⟩, ⟨[], 0, 0, [], [], rfl, Nat.zero_le _, Nat.zero_le _, Nat.zero_le _⟩, Nat.zero_le _, fun x h => (by cases h)⟩
theorem clrC_T {c : CellD} (h : CellT c) : CellT (clrC c) := by
  have h1 := clearP_len c.props 60
  have h2 := clearP_len (clearP c.props 60) 61
  exact ⟨h.1, h.2.1.props (show (clearP (clearP c.props 60) 61).length ≤ _ by omega), h.2.2⟩
theorem splT_T {rs : List RowD} {row cell : Int} (hv : Val rs row cell) (fresh : Int) (hT : TabT rs) (hs : ∀ r ∈ rs, r.cells.length ≤ 900) : TabT (splT rs (rectN rs row cell) fresh) := by
  refine ⟨by rw [splT_len]; exact hT.1, fun r h => ?_⟩
  rcases splT_mem hv fresh h with h | ⟨r0, h0, k, f, hk, rfl⟩
  · exact hT.2 r h
  · have hl := splR_len r0 k f (wQ (rectN rs row cell)) hk
    have hw := wQ_le hv
    have h9 := hs r0 h0
    obtain ⟨t1, t2, t3⟩ := hT.2 r0 h0
    refine ⟨t1, by omega, fun c hc => ?_⟩
    rcases splR_mem hc hk with h | ⟨c0, h, rfl⟩ | ⟨f, rfl⟩
    · exact t3 c h
    · exact clrC_T (t3 c0 h)
    · exact freshC_T f
theorem SmallT.cells {rs : List RowD} (h : SmallT rs) : ∀ r ∈ rs, r.cells.length ≤ 900 ∧ ∀ c ∈ r.cells, c.props.length ≤ 900 := by
  intro r hr
  obtain ⟨i, hi, rfl⟩ := List.mem_iff_getElem.1 hr
  have h1 := h.2 i (by omega) (by omega)
  have e : rAt rs i = rs[i] := by simp [rAt, hi]
  rw [e] at h1
  refine ⟨by have := h1.1; omega, fun c hc => ?_⟩
  obtain ⟨k, hk, rfl⟩ := List.mem_iff_getElem.1 hc
  have h2 := h1.2 k (by omega) (by omega)
  have e2 : cAt rs[i].cells k = rs[i].cells[k] := by simp [cAt, hk]
  rw [e2] at h2
  have := h2.1; omega
end Go.Ob
