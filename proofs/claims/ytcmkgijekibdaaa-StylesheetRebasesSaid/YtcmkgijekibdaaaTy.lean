/- The closed facts on the types of this translation; written by a program (gen.py). -/
import Derived.Test.YtcmkgijekibdaaaChecked
import Derived.Test.YtcmkgijekibdaaaObV
set_option linter.unusedVariables false
set_option linter.unusedSimpArgs false
namespace Go.Ob
open Go.Proofs
namespace Ty
theorem follows : Try.prog.follows .mixedOrders = true := by kernel_rfl
theorem one3 : OneT Try.prog 3 := ⟨Try.isAgg3, Try.sizeOf3⟩
theorem zero3 : ZeroT Try.prog 3 [.int .i64 0] := ⟨⟨_, Try.zeroValue3, rfl⟩, rfl⟩
theorem one4 : OneT Try.prog 4 := ⟨Try.isAgg4, Try.sizeOf4⟩
theorem zero4 : ZeroT Try.prog 4 [.bool false] := ⟨⟨_, Try.zeroValue4, rfl⟩, rfl⟩
theorem one5 : OneT Try.prog 5 := ⟨Try.isAgg5, Try.sizeOf5⟩
theorem zero5 : ZeroT Try.prog 5 [.int .u8 0] := ⟨⟨_, Try.zeroValue5, rfl⟩, rfl⟩
theorem one9 : OneT Try.prog 9 := ⟨Try.isAgg9, Try.sizeOf9⟩
theorem zero9 : ZeroT Try.prog 9 [.string ⟨#[]⟩] := ⟨⟨_, Try.zeroValue9, rfl⟩, rfl⟩
theorem one22 : OneT Try.prog 22 := ⟨Try.isAgg22, Try.sizeOf22⟩
theorem sl22 : SliceT Try.prog 22 28 6 := ⟨Try.underlying22, Try.sizeOf28⟩
theorem app22 : AppT Try.prog 22 28 6 72 := ⟨by decide, Try.underlying22, Try.sizeOf28, ⟨Try.t28, _, by kernel_rfl, rfl, rfl, rfl, rfl⟩⟩
theorem zero22 : ZeroT Try.prog 22 [.slice none 0 0] := ⟨⟨_, Try.zeroValue22, rfl⟩, rfl⟩
theorem one25 : OneT Try.prog 25 := ⟨Try.isAgg25, Try.sizeOf25⟩
theorem sl25 : SliceT Try.prog 25 5 1 := ⟨Try.underlying25, Try.sizeOf5⟩
theorem app25 : AppT Try.prog 25 5 1 1 := ⟨by decide, Try.underlying25, Try.sizeOf5, ⟨Try.t5, _, by kernel_rfl, rfl, rfl, rfl, rfl⟩⟩
theorem zero25 : ZeroT Try.prog 25 [.slice none 0 0] := ⟨⟨_, Try.zeroValue25, rfl⟩, rfl⟩
theorem one26 : OneT Try.prog 26 := ⟨Try.isAgg26, Try.sizeOf26⟩
theorem sl26 : SliceT Try.prog 26 38 2 := ⟨Try.underlying26, Try.sizeOf38⟩
theorem app26 : AppT Try.prog 26 38 2 16 := ⟨by decide, Try.underlying26, Try.sizeOf38, ⟨Try.t38, _, by kernel_rfl, rfl, rfl, rfl, rfl⟩⟩
theorem zero26 : ZeroT Try.prog 26 [.slice none 0 0] := ⟨⟨_, Try.zeroValue26, rfl⟩, rfl⟩
theorem agg28 : AggT Try.prog 28 6 := ⟨Try.isAgg28, Try.sizeOf28⟩
theorem fv28_0 : FieldV Try.prog 28 0 0 3 := ⟨⟨_, _, Try.underlying28, rfl, rfl, rfl⟩⟩
theorem f28_0 : FieldT Try.prog 28 0 0 := ⟨⟨_, _, 0, Try.underlying28, rfl, rfl, Try.sizeOf3⟩⟩
theorem fv28_1 : FieldV Try.prog 28 1 1 3 := ⟨⟨_, _, Try.underlying28, rfl, rfl, rfl⟩⟩
theorem f28_1 : FieldT Try.prog 28 1 1 := ⟨⟨_, _, 0, Try.underlying28, rfl, rfl, Try.sizeOf3⟩⟩
theorem fv28_2 : FieldV Try.prog 28 2 2 9 := ⟨⟨_, _, Try.underlying28, rfl, rfl, rfl⟩⟩
theorem f28_2 : FieldT Try.prog 28 2 2 := ⟨⟨_, _, 0, Try.underlying28, rfl, rfl, Try.sizeOf9⟩⟩
theorem fv28_3 : FieldV Try.prog 28 3 3 3 := ⟨⟨_, _, Try.underlying28, rfl, rfl, rfl⟩⟩
theorem f28_3 : FieldT Try.prog 28 3 3 := ⟨⟨_, _, 0, Try.underlying28, rfl, rfl, Try.sizeOf3⟩⟩
theorem fv28_4 : FieldV Try.prog 28 4 4 3 := ⟨⟨_, _, Try.underlying28, rfl, rfl, rfl⟩⟩
theorem f28_4 : FieldT Try.prog 28 4 4 := ⟨⟨_, _, 0, Try.underlying28, rfl, rfl, Try.sizeOf3⟩⟩
theorem fv28_5 : FieldV Try.prog 28 5 5 26 := ⟨⟨_, _, Try.underlying28, rfl, rfl, rfl⟩⟩
theorem f28_5 : FieldT Try.prog 28 5 5 := ⟨⟨_, _, 0, Try.underlying28, rfl, rfl, Try.sizeOf26⟩⟩
theorem pl28 : PlacesT Try.prog 28 [(0, 1), (1, 1), (2, 1), (3, 1), (4, 1), (5, 1)] := ⟨⟨_, Try.underlying28, fun w => by kernel_rfl⟩⟩
theorem zero28 : ZeroT Try.prog 28 [.int .i64 0, .int .i64 0, .string ⟨#[]⟩, .int .i64 0, .int .i64 0, .slice none 0 0] := ⟨⟨_, Try.zeroValue28, rfl⟩, rfl⟩
theorem one29 : OneT Try.prog 29 := ⟨Try.isAgg29, Try.sizeOf29⟩
theorem zero29 : ZeroT Try.prog 29 [.int .i64 0] := ⟨⟨_, Try.zeroValue29, rfl⟩, rfl⟩
theorem agg38 : AggT Try.prog 38 2 := ⟨Try.isAgg38, Try.sizeOf38⟩
theorem fv38_0 : FieldV Try.prog 38 0 0 3 := ⟨⟨_, _, Try.underlying38, rfl, rfl, rfl⟩⟩
theorem f38_0 : FieldT Try.prog 38 0 0 := ⟨⟨_, _, 0, Try.underlying38, rfl, rfl, Try.sizeOf3⟩⟩
theorem fv38_1 : FieldV Try.prog 38 1 1 3 := ⟨⟨_, _, Try.underlying38, rfl, rfl, rfl⟩⟩
theorem f38_1 : FieldT Try.prog 38 1 1 := ⟨⟨_, _, 0, Try.underlying38, rfl, rfl, Try.sizeOf3⟩⟩
theorem pl38 : PlacesT Try.prog 38 [(0, 1), (1, 1)] := ⟨⟨_, Try.underlying38, fun w => by kernel_rfl⟩⟩
theorem eq38 : EqT Try.prog 38 2 := ⟨Try.eqGuardType38, by
  intro w xs ys h1 h2
  match xs, ys, h1, h2 with
  | [a0, a1], [b0, b1], _, _ =>
    simp only [List.map_cons, List.map_nil]
    go_simp
    repeat' split
    all_goals simp_all⟩
theorem zero38 : ZeroT Try.prog 38 [.int .i64 0, .int .i64 0] := ⟨⟨_, Try.zeroValue38, rfl⟩, rfl⟩
theorem agg40 : AggT Try.prog 40 6 := ⟨Try.isAgg40, Try.sizeOf40⟩
theorem fv40_0 : FieldV Try.prog 40 0 0 3 := ⟨⟨_, _, Try.underlying40, rfl, rfl, rfl⟩⟩
theorem f40_0 : FieldT Try.prog 40 0 0 := ⟨⟨_, _, 0, Try.underlying40, rfl, rfl, Try.sizeOf3⟩⟩
theorem fv40_1 : FieldV Try.prog 40 1 1 3 := ⟨⟨_, _, Try.underlying40, rfl, rfl, rfl⟩⟩
theorem f40_1 : FieldT Try.prog 40 1 1 := ⟨⟨_, _, 0, Try.underlying40, rfl, rfl, Try.sizeOf3⟩⟩
theorem fv40_2 : FieldV Try.prog 40 2 2 3 := ⟨⟨_, _, Try.underlying40, rfl, rfl, rfl⟩⟩
theorem f40_2 : FieldT Try.prog 40 2 2 := ⟨⟨_, _, 0, Try.underlying40, rfl, rfl, Try.sizeOf3⟩⟩
theorem fv40_3 : FieldV Try.prog 40 3 3 3 := ⟨⟨_, _, Try.underlying40, rfl, rfl, rfl⟩⟩
theorem f40_3 : FieldT Try.prog 40 3 3 := ⟨⟨_, _, 0, Try.underlying40, rfl, rfl, Try.sizeOf3⟩⟩
theorem fv40_4 : FieldV Try.prog 40 4 4 3 := ⟨⟨_, _, Try.underlying40, rfl, rfl, rfl⟩⟩
theorem f40_4 : FieldT Try.prog 40 4 4 := ⟨⟨_, _, 0, Try.underlying40, rfl, rfl, Try.sizeOf3⟩⟩
theorem fv40_5 : FieldV Try.prog 40 5 5 9 := ⟨⟨_, _, Try.underlying40, rfl, rfl, rfl⟩⟩
theorem f40_5 : FieldT Try.prog 40 5 5 := ⟨⟨_, _, 0, Try.underlying40, rfl, rfl, Try.sizeOf9⟩⟩
theorem pl40 : PlacesT Try.prog 40 [(0, 1), (1, 1), (2, 1), (3, 1), (4, 1), (5, 1)] := ⟨⟨_, Try.underlying40, fun w => by kernel_rfl⟩⟩
theorem zero40 : ZeroT Try.prog 40 [.int .i64 0, .int .i64 0, .int .i64 0, .int .i64 0, .int .i64 0, .string ⟨#[]⟩] := ⟨⟨_, Try.zeroValue40, rfl⟩, rfl⟩
theorem one50 : OneT Try.prog 50 := ⟨Try.isAgg50, Try.sizeOf50⟩
theorem sl50 : SliceT Try.prog 50 3 1 := ⟨Try.underlying50, Try.sizeOf3⟩
theorem app50 : AppT Try.prog 50 3 1 8 := ⟨by decide, Try.underlying50, Try.sizeOf3, ⟨Try.t3, _, by kernel_rfl, rfl, rfl, rfl, rfl⟩⟩
theorem zero50 : ZeroT Try.prog 50 [.slice none 0 0] := ⟨⟨_, Try.zeroValue50, rfl⟩, rfl⟩
theorem agg66 : AggT Try.prog 66 2 := ⟨Try.isAgg66, Try.sizeOf66⟩
theorem fv66_0 : FieldV Try.prog 66 0 0 3 := ⟨⟨_, _, Try.underlying66, rfl, rfl, rfl⟩⟩
theorem f66_0 : FieldT Try.prog 66 0 0 := ⟨⟨_, _, 0, Try.underlying66, rfl, rfl, Try.sizeOf3⟩⟩
theorem fv66_1 : FieldV Try.prog 66 1 1 3 := ⟨⟨_, _, Try.underlying66, rfl, rfl, rfl⟩⟩
theorem f66_1 : FieldT Try.prog 66 1 1 := ⟨⟨_, _, 0, Try.underlying66, rfl, rfl, Try.sizeOf3⟩⟩
theorem pl66 : PlacesT Try.prog 66 [(0, 1), (1, 1)] := ⟨⟨_, Try.underlying66, fun w => by kernel_rfl⟩⟩
theorem eq66 : EqT Try.prog 66 2 := ⟨Try.eqGuardType66, by
  intro w xs ys h1 h2
  match xs, ys, h1, h2 with
  | [a0, a1], [b0, b1], _, _ =>
    simp only [List.map_cons, List.map_nil]
    go_simp
    repeat' split
    all_goals simp_all⟩
theorem zero66 : ZeroT Try.prog 66 [.int .i64 0, .int .i64 0] := ⟨⟨_, Try.zeroValue66, rfl⟩, rfl⟩
theorem one68 : OneT Try.prog 68 := ⟨Try.isAgg68, Try.sizeOf68⟩
theorem sl68 : SliceT Try.prog 68 40 6 := ⟨Try.underlying68, Try.sizeOf40⟩
theorem app68 : AppT Try.prog 68 40 6 56 := ⟨by decide, Try.underlying68, Try.sizeOf40, ⟨Try.t40, _, by kernel_rfl, rfl, rfl, rfl, rfl⟩⟩
theorem zero68 : ZeroT Try.prog 68 [.slice none 0 0] := ⟨⟨_, Try.zeroValue68, rfl⟩, rfl⟩
theorem one74 : OneT Try.prog 74 := ⟨Try.isAgg74, Try.sizeOf74⟩
theorem one80 : OneT Try.prog 80 := ⟨Try.isAgg80, Try.sizeOf80⟩
theorem one84 : OneT Try.prog 84 := ⟨Try.isAgg84, Try.sizeOf84⟩
theorem one96 : OneT Try.prog 96 := ⟨Try.isAgg96, Try.sizeOf96⟩
theorem one98 : OneT Try.prog 98 := ⟨Try.isAgg98, Try.sizeOf98⟩
theorem one100 : OneT Try.prog 100 := ⟨Try.isAgg100, Try.sizeOf100⟩
theorem zero100 : ZeroT Try.prog 100 [.pointer none] := ⟨⟨_, Try.zeroValue100, rfl⟩, rfl⟩
theorem agg103 : AggT Try.prog 103 6 := ⟨Try.isAgg103, Try.sizeOf103⟩
theorem fv103_0 : FieldV Try.prog 103 0 0 3 := ⟨⟨_, _, Try.underlying103, rfl, rfl, rfl⟩⟩
theorem f103_0 : FieldT Try.prog 103 0 0 := ⟨⟨_, _, 0, Try.underlying103, rfl, rfl, Try.sizeOf3⟩⟩
theorem fv103_1 : FieldV Try.prog 103 1 1 3 := ⟨⟨_, _, Try.underlying103, rfl, rfl, rfl⟩⟩
theorem f103_1 : FieldT Try.prog 103 1 1 := ⟨⟨_, _, 0, Try.underlying103, rfl, rfl, Try.sizeOf3⟩⟩
theorem fv103_2 : FieldV Try.prog 103 2 2 3 := ⟨⟨_, _, Try.underlying103, rfl, rfl, rfl⟩⟩
theorem f103_2 : FieldT Try.prog 103 2 2 := ⟨⟨_, _, 0, Try.underlying103, rfl, rfl, Try.sizeOf3⟩⟩
theorem fv103_3 : FieldV Try.prog 103 3 3 3 := ⟨⟨_, _, Try.underlying103, rfl, rfl, rfl⟩⟩
theorem f103_3 : FieldT Try.prog 103 3 3 := ⟨⟨_, _, 0, Try.underlying103, rfl, rfl, Try.sizeOf3⟩⟩
theorem fv103_4 : FieldV Try.prog 103 4 4 3 := ⟨⟨_, _, Try.underlying103, rfl, rfl, rfl⟩⟩
theorem f103_4 : FieldT Try.prog 103 4 4 := ⟨⟨_, _, 0, Try.underlying103, rfl, rfl, Try.sizeOf3⟩⟩
theorem fv103_5 : FieldV Try.prog 103 5 5 9 := ⟨⟨_, _, Try.underlying103, rfl, rfl, rfl⟩⟩
theorem f103_5 : FieldT Try.prog 103 5 5 := ⟨⟨_, _, 0, Try.underlying103, rfl, rfl, Try.sizeOf9⟩⟩
theorem pl103 : PlacesT Try.prog 103 [(0, 1), (1, 1), (2, 1), (3, 1), (4, 1), (5, 1)] := ⟨⟨_, Try.underlying103, fun w => by kernel_rfl⟩⟩
theorem zero103 : ZeroT Try.prog 103 [.int .i64 0, .int .i64 0, .int .i64 0, .int .i64 0, .int .i64 0, .string ⟨#[]⟩] := ⟨⟨_, Try.zeroValue103, rfl⟩, rfl⟩
theorem one109 : OneT Try.prog 109 := ⟨Try.isAgg109, Try.sizeOf109⟩
theorem one112 : OneT Try.prog 112 := ⟨Try.isAgg112, Try.sizeOf112⟩
theorem one114 : OneT Try.prog 114 := ⟨Try.isAgg114, Try.sizeOf114⟩
theorem sl114 : SliceT Try.prog 114 103 6 := ⟨Try.underlying114, Try.sizeOf103⟩
theorem app114 : AppT Try.prog 114 103 6 56 := ⟨by decide, Try.underlying114, Try.sizeOf103, ⟨Try.t103, _, by kernel_rfl, rfl, rfl, rfl, rfl⟩⟩
theorem zero114 : ZeroT Try.prog 114 [.slice none 0 0] := ⟨⟨_, Try.zeroValue114, rfl⟩, rfl⟩
theorem one117 : OneT Try.prog 117 := ⟨Try.isAgg117, Try.sizeOf117⟩
theorem one119 : OneT Try.prog 119 := ⟨Try.isAgg119, Try.sizeOf119⟩
theorem zero119 : ZeroT Try.prog 119 [.int .u64 0] := ⟨⟨_, Try.zeroValue119, rfl⟩, rfl⟩
theorem one91 : OneT Try.prog 91 := ⟨Try.isAgg91, Try.sizeOf91⟩
end Ty
end Go.Ob

