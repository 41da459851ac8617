import Derived.Test.YtcmkgijekibdaaaQ5
import Derived.Test.YtcmkgijekibdaaaObN
import Derived.Test.YtcmkgijekibdaaaObO
import Derived.Test.YtcmkgijekibdaaaObW
set_option linter.unusedVariables false
set_option linter.unusedSimpArgs false
namespace Go.Ob
open Go.Proofs
theorem dec_prop {n : Nat} {ds : List D} (h : Typed Try.prog n 38 ds) : ∃ y : Int × Int, (fun p => I64 p.1 ∧ I64 p.2) y ∧ ds = (fun p => [D.v (.int .i64 p.1), D.v (.int .i64 p.2)]) y := by
  obtain ⟨m0, ps0, rfl, a0⟩ := ty_st (ts := [3, 3]) Try.underlying38 rfl h
  obtain ⟨p0_0, q0_0, rfl, h0_0, a0⟩ := all_cons a0
  obtain ⟨p0_1, q0_1, rfl, h0_1, a0⟩ := all_cons a0
  obtain rfl := all_nil a0
  obtain ⟨x1, rfl, w1⟩ := ty_int Try.underlying3 h0_0
  obtain ⟨x2, rfl, w2⟩ := ty_int Try.underlying3 h0_1
  exact ⟨(x1, x2), ⟨w1, w2⟩, rfl⟩
theorem dec_sty {n : Nat} {ds : List D} (h : Typed Try.prog n 28 ds) : ∃ y : Sty, (fun _ => True) y ∧ ds = encSt y := by
  obtain ⟨m0, ps0, rfl, a0⟩ := ty_st (ts := [3, 3, 9, 3, 3, 26]) Try.underlying28 rfl h
  obtain ⟨p0_0, q0_0, rfl, h0_0, a0⟩ := all_cons a0
  obtain ⟨p0_1, q0_1, rfl, h0_1, a0⟩ := all_cons a0
  obtain ⟨p0_2, q0_2, rfl, h0_2, a0⟩ := all_cons a0
  obtain ⟨p0_3, q0_3, rfl, h0_3, a0⟩ := all_cons a0
  obtain ⟨p0_4, q0_4, rfl, h0_4, a0⟩ := all_cons a0
  obtain ⟨p0_5, q0_5, rfl, h0_5, a0⟩ := all_cons a0
  obtain rfl := all_nil a0
  obtain ⟨x1, rfl, w1⟩ := ty_int Try.underlying3 h0_0
  obtain ⟨x2, rfl, w2⟩ := ty_int Try.underlying3 h0_1
  obtain ⟨x3, rfl, w3⟩ := ty_str Try.underlying9 h0_2
  obtain ⟨x4, rfl, w4⟩ := ty_int Try.underlying3 h0_3
  obtain ⟨x5, rfl, w5⟩ := ty_int Try.underlying3 h0_4
  obtain ⟨x6, w6, l6, rfl⟩ := ty_sl Try.underlying26 (by kernel_rfl : Try.prog.cellsOf 38 = 2) (fun _ _ h => dec_prop h) h0_5
  exact ⟨⟨x1, x2, x3, x4, x5, x6⟩, trivial, rfl⟩
theorem open_ss {d : D} (h : TypedV Try.prog 22 d) : ∃ l : List Sty, l.length ≤ maxLen ∧ d = .sl 6 (encSs l) := by
  have hc : Try.prog.cellsOf 28 = 6 := by kernel_rfl
  obtain ⟨l, h1, h2, rfl⟩ := tv_sl (ok := fun _ : Sty => True) (enc := encSt) Try.underlying22 hc (fun _ _ h => dec_sty h) h
  exact ⟨l, h2, rfl⟩
theorem open_ps {d : D} (h : TypedV Try.prog 26 d) : ∃ l : List (Int × Int), l.length ≤ maxLen ∧ d = .sl 2 (encP l) := by
  have hc : Try.prog.cellsOf 38 = 2 := by kernel_rfl
  obtain ⟨l, h1, h2, rfl⟩ := tv_sl (ok := fun p : Int × Int => I64 p.1 ∧ I64 p.2) (enc := fun p => [D.v (.int .i64 p.1), D.v (.int .i64 p.2)]) Try.underlying26 hc (fun _ _ h => dec_prop h) h
  exact ⟨l, h2, rfl⟩
theorem open_st {d : D} (h : TypedV Try.prog 28 d) : ∃ x : Sty, d = .agg (encSt x) := by
  obtain ⟨n, ds, rfl, h1⟩ := tv_st Try.underlying28 h
  obtain ⟨x, _, rfl⟩ := dec_sty h1
  exact ⟨x, rfl⟩
theorem len_ok {α : Type} {l : List α} (h : l.length ≤ maxLen) : l.length ≤ 9223372036854775807 := h
end Go.Ob
