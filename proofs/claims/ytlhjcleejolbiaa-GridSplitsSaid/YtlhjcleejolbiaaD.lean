import Derived.Test.YtlhjcleejolbiaaG
import Derived.Test.YtlhjcleejolbiaaObN
import Derived.Test.YtlhjcleejolbiaaObO
set_option linter.unusedVariables false
set_option linter.unusedSimpArgs false
namespace Go.Ob
open Go.Proofs
def encP1 (p : Int × Int) : List D := [.v (.int .i64 p.1), .v (.int .i64 p.2)]
theorem dec_prop {n : Nat} {ds : List D} (h : Typed Try.prog n 77 ds) : ∃ y : Int × Int, (fun p => I64 p.1 ∧ I64 p.2) y ∧ ds = (fun p => [D.v (.int .i64 p.1), D.v (.int .i64 p.2)]) y := by
  obtain ⟨m0, ps0, rfl, a0⟩ := ty_st (ts := [3, 3]) Try.underlying77 rfl h
  obtain ⟨p0_0, q0_0, rfl, h0_0, a0⟩ := all_cons a0
  obtain ⟨p0_1, q0_1, rfl, h0_1, a0⟩ := all_cons a0
  obtain rfl := all_nil a0
  obtain ⟨x1, rfl, w1⟩ := ty_int Try.underlying3 h0_0
  obtain ⟨x2, rfl, w2⟩ := ty_int Try.underlying3 h0_1
  exact ⟨(x1, x2), ⟨w1, w2⟩, rfl⟩
def CellIn (c : CellD) : Prop := ∀ p ∈ c.props, I64 p.1 ∧ I64 p.2
theorem dec_cell {n : Nat} {ds : List D} (h : Typed Try.prog n 74 ds) : ∃ y : CellD, CellIn y ∧ ds = encC y := by
  obtain ⟨m0, ps0, rfl, a0⟩ := ty_st (ts := [3, 33, 72]) Try.underlying74 rfl h
  obtain ⟨p0_0, q0_0, rfl, h0_0, a0⟩ := all_cons a0
  obtain ⟨p0_1, q0_1, rfl, h0_1, a0⟩ := all_cons a0
  obtain ⟨p0_2, q0_2, rfl, h0_2, a0⟩ := all_cons a0
  obtain rfl := all_nil a0
  obtain ⟨x1, rfl, w1⟩ := ty_int Try.underlying3 h0_0
  obtain ⟨m2, ps2, rfl, a2⟩ := ty_st (ts := [27, 31]) Try.underlying33 rfl h0_1
  obtain ⟨p2_0, q2_0, rfl, h2_0, a2⟩ := all_cons a2
  obtain ⟨p2_1, q2_1, rfl, h2_1, a2⟩ := all_cons a2
  obtain rfl := all_nil a2
  obtain ⟨x3, w3, l3, rfl⟩ := ty_sl Try.underlying27 (by kernel_rfl : Try.prog.cellsOf 77 = 2) (fun _ _ h => dec_prop h) h2_0
  obtain ⟨m4, ps4, rfl, a4⟩ := ty_st (ts := [3, 3, 28, 29]) Try.underlying31 rfl h2_1
  obtain ⟨p4_0, q4_0, rfl, h4_0, a4⟩ := all_cons a4
  obtain ⟨p4_1, q4_1, rfl, h4_1, a4⟩ := all_cons a4
  obtain ⟨p4_2, q4_2, rfl, h4_2, a4⟩ := all_cons a4
  obtain ⟨p4_3, q4_3, rfl, h4_3, a4⟩ := all_cons a4
  obtain rfl := all_nil a4
  obtain ⟨x5, rfl, w5⟩ := ty_int Try.underlying3 h4_0
  obtain ⟨x6, rfl, w6⟩ := ty_int Try.underlying3 h4_1
  obtain ⟨x7, w7, l7, rfl⟩ := ty_sl (ok := fun _ => True) (enc := fun d => d) Try.underlying28 (by kernel_rfl : Try.prog.cellsOf 111 = 2) (fun _ ds _ => ⟨ds, trivial, rfl⟩) h4_2
  simp only [List.map_id'] at *
  obtain ⟨x8, w8, l8, rfl⟩ := ty_sl (ok := fun _ => True) (enc := fun d => d) Try.underlying29 (by kernel_rfl : Try.prog.cellsOf 113 = 4) (fun _ ds _ => ⟨ds, trivial, rfl⟩) h4_3
  simp only [List.map_id'] at *
  obtain ⟨x9, w9, l9, rfl⟩ := ty_sl (ok := fun _ => True) (enc := fun d => d) Try.underlying72 (by kernel_rfl : Try.prog.cellsOf 115 = 11) (fun _ ds _ => ⟨ds, trivial, rfl⟩) h0_2
  simp only [List.map_id'] at *
  exact ⟨⟨.v (.int .i64 x1), x3, .v (.int .i64 x5), .v (.int .i64 x6), .sl 2 x7, .sl 4 x8, x9⟩, w3, rfl⟩
def RowIn (r : RowD) : Prop := ∀ c ∈ r.cells, CellIn c
theorem dec_row {n : Nat} {ds : List D} (h : Typed Try.prog n 36 ds) : ∃ y : RowD, RowIn y ∧ ds = encR y := by
  obtain ⟨m0, ps0, rfl, a0⟩ := ty_st (ts := [33, 34]) Try.underlying36 rfl h
  obtain ⟨p0_0, q0_0, rfl, h0_0, a0⟩ := all_cons a0
  obtain ⟨p0_1, q0_1, rfl, h0_1, a0⟩ := all_cons a0
  obtain rfl := all_nil a0
  obtain ⟨m1, ps1, rfl, a1⟩ := ty_st (ts := [27, 31]) Try.underlying33 rfl h0_0
  obtain ⟨p1_0, q1_0, rfl, h1_0, a1⟩ := all_cons a1
  obtain ⟨p1_1, q1_1, rfl, h1_1, a1⟩ := all_cons a1
  obtain rfl := all_nil a1
  obtain ⟨x2, w2, l2, rfl⟩ := ty_sl Try.underlying27 (by kernel_rfl : Try.prog.cellsOf 77 = 2) (fun _ _ h => dec_prop h) h1_0
  obtain ⟨m3, ps3, rfl, a3⟩ := ty_st (ts := [3, 3, 28, 29]) Try.underlying31 rfl h1_1
  obtain ⟨p3_0, q3_0, rfl, h3_0, a3⟩ := all_cons a3
  obtain ⟨p3_1, q3_1, rfl, h3_1, a3⟩ := all_cons a3
  obtain ⟨p3_2, q3_2, rfl, h3_2, a3⟩ := all_cons a3
  obtain ⟨p3_3, q3_3, rfl, h3_3, a3⟩ := all_cons a3
  obtain rfl := all_nil a3
  obtain ⟨x4, rfl, w4⟩ := ty_int Try.underlying3 h3_0
  obtain ⟨x5, rfl, w5⟩ := ty_int Try.underlying3 h3_1
  obtain ⟨x6, w6, l6, rfl⟩ := ty_sl (ok := fun _ => True) (enc := fun d => d) Try.underlying28 (by kernel_rfl : Try.prog.cellsOf 111 = 2) (fun _ ds _ => ⟨ds, trivial, rfl⟩) h3_2
  simp only [List.map_id'] at *
  obtain ⟨x7, w7, l7, rfl⟩ := ty_sl (ok := fun _ => True) (enc := fun d => d) Try.underlying29 (by kernel_rfl : Try.prog.cellsOf 113 = 4) (fun _ ds _ => ⟨ds, trivial, rfl⟩) h3_3
  simp only [List.map_id'] at *
  obtain ⟨x8, w8, l8, rfl⟩ := ty_sl Try.underlying34 (by kernel_rfl : Try.prog.cellsOf 74 = 7) (fun _ _ h => dec_cell h) h0_1
  exact ⟨⟨.sl 2 (x2.map fun p => [.v (.int .i64 p.1), .v (.int .i64 p.2)]), .v (.int .i64 x4), .v (.int .i64 x5), .sl 2 x6, .sl 4 x7, x8⟩, w8, rfl⟩
theorem open_rows {d : D} (h : TypedV Try.prog 22 d) : ∃ l : List RowD, (∀ r ∈ l, RowIn r) ∧ l.length ≤ maxLen ∧ d = .sl 6 (encRs l) := by
  have hc : Try.prog.cellsOf 36 = 6 := by kernel_rfl
  obtain ⟨l, h1, h2, rfl⟩ := tv_sl (ok := RowIn) (enc := encR) Try.underlying22 hc (fun _ _ h => dec_row h) h
  exact ⟨l, h1, h2, rfl⟩
end Go.Ob
