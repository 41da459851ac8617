import Derived.Test.YtajklmaaokgecaaK10
import Derived.Test.YtajklmaaokgecaaD
set_option linter.unusedVariables false
set_option linter.unusedSimpArgs false
namespace Go.Ob
open Go.Proofs
theorem dec_ch {n : Nat} {ds : List D} (h : Typed Try.prog n 65 ds) : ∃ y : Ch, (fun _ => True) y ∧ ds = encCh y := by
  obtain ⟨m0, ps0, rfl, a0⟩ := ty_st (ts := [3, 3, 3, 4, 4]) Try.underlying65 rfl h
  obtain ⟨p0_0, q0_0, rfl, h0_0, a0⟩ := all_cons a0
  obtain ⟨p0_1, q0_1, rfl, h0_1, a0⟩ := all_cons a0
  obtain ⟨p0_2, q0_2, rfl, h0_2, a0⟩ := all_cons a0
  obtain ⟨p0_3, q0_3, rfl, h0_3, a0⟩ := all_cons a0
  obtain ⟨p0_4, q0_4, rfl, h0_4, a0⟩ := all_cons a0
  obtain rfl := all_nil a0
  obtain ⟨x1, rfl, w1⟩ := ty_int Try.underlying3 h0_0
  obtain ⟨x2, rfl, w2⟩ := ty_int Try.underlying3 h0_1
  obtain ⟨x3, rfl, w3⟩ := ty_int Try.underlying3 h0_2
  obtain ⟨x4, rfl⟩ := ty_bool Try.underlying4 h0_3
  obtain ⟨x5, rfl⟩ := ty_bool Try.underlying4 h0_4
  exact ⟨⟨x1, x2, x3, x4, x5⟩, trivial, rfl⟩
theorem open_cs {d : D} (h : TypedV Try.prog 61 d) : ∃ l : List Ch, l.length ≤ maxLen ∧ d = .sl 5 (encD l) := by
  have hc : Try.prog.cellsOf 65 = 5 := by kernel_rfl
  obtain ⟨l, h1, h2, rfl⟩ := tv_sl (ok := fun _ : Ch => True) (enc := encCh) Try.underlying61 hc (fun _ _ h => dec_ch h) h
  exact ⟨l, h2, rfl⟩
theorem open_p {d : D} (h : TypedV Try.prog 59 d) : ∃ p : Int × Int, d = .agg [.v (.int .i64 p.1), .v (.int .i64 p.2)] := by
  obtain ⟨n, ds, rfl, h1⟩ := tv_st Try.underlying59 h
  obtain ⟨p, _, rfl⟩ := dec_prop h1
  exact ⟨p, rfl⟩
end Go.Ob
