import Derived.Test.YtcmkgijekibdaaaD
set_option linter.unusedVariables false
set_option linter.unusedSimpArgs false
namespace Go.Ob
open Go.Proofs
theorem dec_bs {n : Nat} {ds : List D} (h : Typed Try.prog n 66 ds) : ∃ y : Int × Int, (fun _ => True) y ∧ ds = (fun p => [D.v (.int .i64 p.1), D.v (.int .i64 p.2)]) y := by
  obtain ⟨m0, ps0, rfl, a0⟩ := ty_st (ts := [3, 3]) Try.underlying66 rfl h
  obtain ⟨p0_0, q0_0, rfl, h0_0, a0⟩ := all_cons a0
  obtain ⟨p0_1, q0_1, rfl, h0_1, a0⟩ := all_cons a0
  obtain rfl := all_nil a0
  obtain ⟨x1, rfl, w1⟩ := ty_int Try.underlying3 h0_0
  obtain ⟨x2, rfl, w2⟩ := ty_int Try.underlying3 h0_1
  exact ⟨(x1, x2), trivial, rfl⟩
theorem open_bs {d : D} (h : TypedV Try.prog 66 d) : ∃ p : Int × Int, d = .agg [.v (.int .i64 p.1), .v (.int .i64 p.2)] := by
  obtain ⟨n, ds, rfl, h1⟩ := tv_st Try.underlying66 h
  obtain ⟨p, _, rfl⟩ := dec_bs h1
  exact ⟨p, rfl⟩
end Go.Ob
