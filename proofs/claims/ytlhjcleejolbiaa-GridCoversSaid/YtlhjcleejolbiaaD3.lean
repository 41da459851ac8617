import Derived.Test.YtlhjcleejolbiaaW6
import Derived.Test.YtlhjcleejolbiaaD
set_option linter.unusedVariables false
set_option linter.unusedSimpArgs false
namespace Go.Ob
open Go.Proofs
theorem dec_area {n : Nat} {ds : List D} (h : Typed Try.prog n 38 ds) : ∃ y : A4, (fun _ => True) y ∧ ds = encA y := by
  obtain ⟨m0, ps0, rfl, a0⟩ := ty_st (ts := [3, 3, 3, 3]) Try.underlying38 rfl h
  obtain ⟨p0_0, q0_0, rfl, h0_0, a0⟩ := all_cons a0
  obtain ⟨p0_1, q0_1, rfl, h0_1, a0⟩ := all_cons a0
  obtain ⟨p0_2, q0_2, rfl, h0_2, a0⟩ := all_cons a0
  obtain ⟨p0_3, q0_3, rfl, h0_3, a0⟩ := all_cons a0
  obtain rfl := all_nil a0
  obtain ⟨x1, rfl, w1⟩ := ty_int Try.underlying3 h0_0
  obtain ⟨x2, rfl, w2⟩ := ty_int Try.underlying3 h0_1
  obtain ⟨x3, rfl, w3⟩ := ty_int Try.underlying3 h0_2
  obtain ⟨x4, rfl, w4⟩ := ty_int Try.underlying3 h0_3
  exact ⟨⟨x1, x2, x3, x4⟩, trivial, rfl⟩
theorem open_a {d : D} (h : TypedV Try.prog 38 d) : ∃ a : A4, d = .agg (encA a) := by
  obtain ⟨n, ds, rfl, h1⟩ := tv_st Try.underlying38 h
  obtain ⟨a, _, rfl⟩ := dec_area h1
  exact ⟨a, rfl⟩
end Go.Ob
