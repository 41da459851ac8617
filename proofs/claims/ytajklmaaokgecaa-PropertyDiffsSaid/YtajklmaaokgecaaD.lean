import Derived.Test.YtajklmaaokgecaaK6
import Derived.Test.YtajklmaaokgecaaObN
import Derived.Test.YtajklmaaokgecaaObO
set_option linter.unusedVariables false
set_option linter.unusedSimpArgs false
namespace Go.Ob
open Go.Proofs
theorem dec_prop {n : Nat} {ds : List D} (h : Typed Try.prog n 59 ds) : ∃ y : Int × Int, (fun p => I64 p.1 ∧ I64 p.2) y ∧ ds = (fun p => [D.v (.int .i64 p.1), D.v (.int .i64 p.2)]) y := by
  obtain ⟨m0, ps0, rfl, a0⟩ := ty_st (ts := [3, 3]) Try.underlying59 rfl h
  obtain ⟨p0_0, q0_0, rfl, h0_0, a0⟩ := all_cons a0
  obtain ⟨p0_1, q0_1, rfl, h0_1, a0⟩ := all_cons a0
  obtain rfl := all_nil a0
  obtain ⟨x1, rfl, w1⟩ := ty_int Try.underlying3 h0_0
  obtain ⟨x2, rfl, w2⟩ := ty_int Try.underlying3 h0_1
  exact ⟨(x1, x2), ⟨w1, w2⟩, rfl⟩
theorem open_ps {d : D} (h : TypedV Try.prog 31 d) : ∃ l : List (Int × Int), (∀ p ∈ l, I64 p.1 ∧ I64 p.2) ∧ l.length ≤ maxLen ∧ d = .sl 2 (encP l) := by
  have hc : Try.prog.cellsOf 59 = 2 := by kernel_rfl
  obtain ⟨l, h1, h2, rfl⟩ := tv_sl (ok := fun p : Int × Int => I64 p.1 ∧ I64 p.2) (enc := fun p => [D.v (.int .i64 p.1), D.v (.int .i64 p.2)]) Try.underlying31 hc (fun _ _ h => dec_prop h) h
  exact ⟨l, h1, h2, rfl⟩
theorem len_ok {l : List (Int × Int)} (h : l.length ≤ maxLen) : l.length ≤ 9223372036854775807 := h
end Go.Ob
