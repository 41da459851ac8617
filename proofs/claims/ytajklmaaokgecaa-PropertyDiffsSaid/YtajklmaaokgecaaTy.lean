/- The closed facts on the types of this translation; written by a program (gen.py). -/
import Derived.Test.YtajklmaaokgecaaChecked
import Derived.Test.YtajklmaaokgecaaObT
set_option linter.unusedVariables false
set_option linter.unusedSimpArgs false
namespace Go.Ob
open Go.Proofs
namespace Ty
theorem follows : Try.prog.follows .mixedOrders = true := by kernel_rfl
theorem one3 : OneT Try.prog 3 := ⟨Try.isAgg3, Try.sizeOf3⟩
theorem zero3 : ZeroT Try.prog 3 [.int .i64 0] := ⟨⟨_, Try.zeroValue3, rfl⟩, rfl⟩
theorem one4 : OneT Try.prog 4 := ⟨Try.isAgg4, Try.sizeOf4⟩
theorem zero4 : ZeroT Try.prog 4 [.bool false] := ⟨⟨_, Try.zeroValue4, rfl⟩, rfl⟩
theorem one9 : OneT Try.prog 9 := ⟨Try.isAgg9, Try.sizeOf9⟩
theorem zero9 : ZeroT Try.prog 9 [.string ⟨#[]⟩] := ⟨⟨_, Try.zeroValue9, rfl⟩, rfl⟩
theorem agg23 : AggT Try.prog 23 6 := ⟨Try.isAgg23, Try.sizeOf23⟩
theorem fv23_0 : FieldV Try.prog 23 0 0 3 := ⟨⟨_, _, Try.underlying23, rfl, rfl, rfl⟩⟩
theorem f23_0 : FieldT Try.prog 23 0 0 := ⟨⟨_, _, 0, Try.underlying23, rfl, rfl, Try.sizeOf3⟩⟩
theorem fv23_1 : FieldV Try.prog 23 1 1 3 := ⟨⟨_, _, Try.underlying23, rfl, rfl, rfl⟩⟩
theorem f23_1 : FieldT Try.prog 23 1 1 := ⟨⟨_, _, 0, Try.underlying23, rfl, rfl, Try.sizeOf3⟩⟩
theorem fv23_2 : FieldV Try.prog 23 2 2 3 := ⟨⟨_, _, Try.underlying23, rfl, rfl, rfl⟩⟩
theorem f23_2 : FieldT Try.prog 23 2 2 := ⟨⟨_, _, 0, Try.underlying23, rfl, rfl, Try.sizeOf3⟩⟩
theorem fv23_3 : FieldV Try.prog 23 3 3 3 := ⟨⟨_, _, Try.underlying23, rfl, rfl, rfl⟩⟩
theorem f23_3 : FieldT Try.prog 23 3 3 := ⟨⟨_, _, 0, Try.underlying23, rfl, rfl, Try.sizeOf3⟩⟩
theorem fv23_4 : FieldV Try.prog 23 4 4 3 := ⟨⟨_, _, Try.underlying23, rfl, rfl, rfl⟩⟩
theorem f23_4 : FieldT Try.prog 23 4 4 := ⟨⟨_, _, 0, Try.underlying23, rfl, rfl, Try.sizeOf3⟩⟩
theorem fv23_5 : FieldV Try.prog 23 5 5 9 := ⟨⟨_, _, Try.underlying23, rfl, rfl, rfl⟩⟩
theorem f23_5 : FieldT Try.prog 23 5 5 := ⟨⟨_, _, 0, Try.underlying23, rfl, rfl, Try.sizeOf9⟩⟩
theorem pl23 : PlacesT Try.prog 23 [(0, 1), (1, 1), (2, 1), (3, 1), (4, 1), (5, 1)] := ⟨⟨_, Try.underlying23, fun w => by kernel_rfl⟩⟩
theorem zero23 : ZeroT Try.prog 23 [.int .i64 0, .int .i64 0, .int .i64 0, .int .i64 0, .int .i64 0, .string ⟨#[]⟩] := ⟨⟨_, Try.zeroValue23, rfl⟩, rfl⟩
theorem one26 : OneT Try.prog 26 := ⟨Try.isAgg26, Try.sizeOf26⟩
theorem zero26 : ZeroT Try.prog 26 [.int .i64 0] := ⟨⟨_, Try.zeroValue26, rfl⟩, rfl⟩
theorem one31 : OneT Try.prog 31 := ⟨Try.isAgg31, Try.sizeOf31⟩
theorem sl31 : SliceT Try.prog 31 59 2 := ⟨Try.underlying31, Try.sizeOf59⟩
theorem app31 : AppT Try.prog 31 59 2 16 := ⟨by decide, Try.underlying31, Try.sizeOf59, ⟨Try.t59, _, by kernel_rfl, rfl, rfl, rfl, rfl⟩⟩
theorem zero31 : ZeroT Try.prog 31 [.slice none 0 0] := ⟨⟨_, Try.zeroValue31, rfl⟩, rfl⟩
theorem one38 : OneT Try.prog 38 := ⟨Try.isAgg38, Try.sizeOf38⟩
theorem sl38 : SliceT Try.prog 38 3 1 := ⟨Try.underlying38, Try.sizeOf3⟩
theorem app38 : AppT Try.prog 38 3 1 8 := ⟨by decide, Try.underlying38, Try.sizeOf3, ⟨Try.t3, _, by kernel_rfl, rfl, rfl, rfl, rfl⟩⟩
theorem zero38 : ZeroT Try.prog 38 [.slice none 0 0] := ⟨⟨_, Try.zeroValue38, rfl⟩, rfl⟩
theorem agg59 : AggT Try.prog 59 2 := ⟨Try.isAgg59, Try.sizeOf59⟩
theorem fv59_0 : FieldV Try.prog 59 0 0 3 := ⟨⟨_, _, Try.underlying59, rfl, rfl, rfl⟩⟩
theorem f59_0 : FieldT Try.prog 59 0 0 := ⟨⟨_, _, 0, Try.underlying59, rfl, rfl, Try.sizeOf3⟩⟩
theorem fv59_1 : FieldV Try.prog 59 1 1 3 := ⟨⟨_, _, Try.underlying59, rfl, rfl, rfl⟩⟩
theorem f59_1 : FieldT Try.prog 59 1 1 := ⟨⟨_, _, 0, Try.underlying59, rfl, rfl, Try.sizeOf3⟩⟩
theorem pl59 : PlacesT Try.prog 59 [(0, 1), (1, 1)] := ⟨⟨_, Try.underlying59, fun w => by kernel_rfl⟩⟩
theorem eq59 : EqT Try.prog 59 2 := ⟨Try.eqGuardType59, by
  intro w xs ys h1 h2
  match xs, ys, h1, h2 with
  | [a0, a1], [b0, b1], _, _ =>
    simp only [List.map_cons, List.map_nil]
    go_simp
    repeat' split
    all_goals simp_all⟩
theorem zero59 : ZeroT Try.prog 59 [.int .i64 0, .int .i64 0] := ⟨⟨_, Try.zeroValue59, rfl⟩, rfl⟩
theorem one61 : OneT Try.prog 61 := ⟨Try.isAgg61, Try.sizeOf61⟩
theorem sl61 : SliceT Try.prog 61 65 5 := ⟨Try.underlying61, Try.sizeOf65⟩
theorem app61 : AppT Try.prog 61 65 5 32 := ⟨by decide, Try.underlying61, Try.sizeOf65, ⟨Try.t65, _, by kernel_rfl, rfl, rfl, rfl, rfl⟩⟩
theorem zero61 : ZeroT Try.prog 61 [.slice none 0 0] := ⟨⟨_, Try.zeroValue61, rfl⟩, rfl⟩
theorem agg65 : AggT Try.prog 65 5 := ⟨Try.isAgg65, Try.sizeOf65⟩
theorem fv65_0 : FieldV Try.prog 65 0 0 3 := ⟨⟨_, _, Try.underlying65, rfl, rfl, rfl⟩⟩
theorem f65_0 : FieldT Try.prog 65 0 0 := ⟨⟨_, _, 0, Try.underlying65, rfl, rfl, Try.sizeOf3⟩⟩
theorem fv65_1 : FieldV Try.prog 65 1 1 3 := ⟨⟨_, _, Try.underlying65, rfl, rfl, rfl⟩⟩
theorem f65_1 : FieldT Try.prog 65 1 1 := ⟨⟨_, _, 0, Try.underlying65, rfl, rfl, Try.sizeOf3⟩⟩
theorem fv65_2 : FieldV Try.prog 65 2 2 3 := ⟨⟨_, _, Try.underlying65, rfl, rfl, rfl⟩⟩
theorem f65_2 : FieldT Try.prog 65 2 2 := ⟨⟨_, _, 0, Try.underlying65, rfl, rfl, Try.sizeOf3⟩⟩
theorem fv65_3 : FieldV Try.prog 65 3 3 4 := ⟨⟨_, _, Try.underlying65, rfl, rfl, rfl⟩⟩
theorem f65_3 : FieldT Try.prog 65 3 3 := ⟨⟨_, _, 0, Try.underlying65, rfl, rfl, Try.sizeOf4⟩⟩
theorem fv65_4 : FieldV Try.prog 65 4 4 4 := ⟨⟨_, _, Try.underlying65, rfl, rfl, rfl⟩⟩
theorem f65_4 : FieldT Try.prog 65 4 4 := ⟨⟨_, _, 0, Try.underlying65, rfl, rfl, Try.sizeOf4⟩⟩
theorem pl65 : PlacesT Try.prog 65 [(0, 1), (1, 1), (2, 1), (3, 1), (4, 1)] := ⟨⟨_, Try.underlying65, fun w => by kernel_rfl⟩⟩
theorem eqm65 : EqM Try.prog 65 [true, true, true, false, false] := ⟨Try.eqGuardType65, by
  intro w xs ys h1 h2
  match xs, ys, h1, h2 with
  | [.i a0, .i a1, .i a2, .b a3, .b a4], [.i b0, .i b1, .i b2, .b b3, .b b4], _, _ =>
    simp only [List.map_cons, List.map_nil, MV.v]
    go_simp
    repeat' split
    all_goals simp_all⟩
theorem zero65 : ZeroT Try.prog 65 [.int .i64 0, .int .i64 0, .int .i64 0, .bool false, .bool false] := ⟨⟨_, Try.zeroValue65, rfl⟩, rfl⟩
theorem one69 : OneT Try.prog 69 := ⟨Try.isAgg69, Try.sizeOf69⟩
theorem sl69 : SliceT Try.prog 69 23 6 := ⟨Try.underlying69, Try.sizeOf23⟩
theorem app69 : AppT Try.prog 69 23 6 56 := ⟨by decide, Try.underlying69, Try.sizeOf23, ⟨Try.t23, _, by kernel_rfl, rfl, rfl, rfl, rfl⟩⟩
theorem zero69 : ZeroT Try.prog 69 [.slice none 0 0] := ⟨⟨_, Try.zeroValue69, rfl⟩, rfl⟩
theorem agg72 : AggT Try.prog 72 6 := ⟨Try.isAgg72, Try.sizeOf72⟩
theorem fv72_0 : FieldV Try.prog 72 0 0 3 := ⟨⟨_, _, Try.underlying72, rfl, rfl, rfl⟩⟩
theorem f72_0 : FieldT Try.prog 72 0 0 := ⟨⟨_, _, 0, Try.underlying72, rfl, rfl, Try.sizeOf3⟩⟩
theorem fv72_1 : FieldV Try.prog 72 1 1 3 := ⟨⟨_, _, Try.underlying72, rfl, rfl, rfl⟩⟩
theorem f72_1 : FieldT Try.prog 72 1 1 := ⟨⟨_, _, 0, Try.underlying72, rfl, rfl, Try.sizeOf3⟩⟩
theorem fv72_2 : FieldV Try.prog 72 2 2 3 := ⟨⟨_, _, Try.underlying72, rfl, rfl, rfl⟩⟩
theorem f72_2 : FieldT Try.prog 72 2 2 := ⟨⟨_, _, 0, Try.underlying72, rfl, rfl, Try.sizeOf3⟩⟩
theorem fv72_3 : FieldV Try.prog 72 3 3 3 := ⟨⟨_, _, Try.underlying72, rfl, rfl, rfl⟩⟩
theorem f72_3 : FieldT Try.prog 72 3 3 := ⟨⟨_, _, 0, Try.underlying72, rfl, rfl, Try.sizeOf3⟩⟩
theorem fv72_4 : FieldV Try.prog 72 4 4 3 := ⟨⟨_, _, Try.underlying72, rfl, rfl, rfl⟩⟩
theorem f72_4 : FieldT Try.prog 72 4 4 := ⟨⟨_, _, 0, Try.underlying72, rfl, rfl, Try.sizeOf3⟩⟩
theorem fv72_5 : FieldV Try.prog 72 5 5 9 := ⟨⟨_, _, Try.underlying72, rfl, rfl, rfl⟩⟩
theorem f72_5 : FieldT Try.prog 72 5 5 := ⟨⟨_, _, 0, Try.underlying72, rfl, rfl, Try.sizeOf9⟩⟩
theorem pl72 : PlacesT Try.prog 72 [(0, 1), (1, 1), (2, 1), (3, 1), (4, 1), (5, 1)] := ⟨⟨_, Try.underlying72, fun w => by kernel_rfl⟩⟩
theorem zero72 : ZeroT Try.prog 72 [.int .i64 0, .int .i64 0, .int .i64 0, .int .i64 0, .int .i64 0, .string ⟨#[]⟩] := ⟨⟨_, Try.zeroValue72, rfl⟩, rfl⟩
theorem one77 : OneT Try.prog 77 := ⟨Try.isAgg77, Try.sizeOf77⟩
theorem one79 : OneT Try.prog 79 := ⟨Try.isAgg79, Try.sizeOf79⟩
theorem zero79 : ZeroT Try.prog 79 [.pointer none] := ⟨⟨_, Try.zeroValue79, rfl⟩, rfl⟩
theorem one80 : OneT Try.prog 80 := ⟨Try.isAgg80, Try.sizeOf80⟩
theorem sl80 : SliceT Try.prog 80 72 6 := ⟨Try.underlying80, Try.sizeOf72⟩
theorem app80 : AppT Try.prog 80 72 6 56 := ⟨by decide, Try.underlying80, Try.sizeOf72, ⟨Try.t72, _, by kernel_rfl, rfl, rfl, rfl, rfl⟩⟩
theorem zero80 : ZeroT Try.prog 80 [.slice none 0 0] := ⟨⟨_, Try.zeroValue80, rfl⟩, rfl⟩
theorem one84 : OneT Try.prog 84 := ⟨Try.isAgg84, Try.sizeOf84⟩
theorem one88 : OneT Try.prog 88 := ⟨Try.isAgg88, Try.sizeOf88⟩
theorem one90 : OneT Try.prog 90 := ⟨Try.isAgg90, Try.sizeOf90⟩
theorem one92 : OneT Try.prog 92 := ⟨Try.isAgg92, Try.sizeOf92⟩
theorem one94 : OneT Try.prog 94 := ⟨Try.isAgg94, Try.sizeOf94⟩
theorem one95 : OneT Try.prog 95 := ⟨Try.isAgg95, Try.sizeOf95⟩
theorem zero95 : ZeroT Try.prog 95 [.int .u64 0] := ⟨⟨_, Try.zeroValue95, rfl⟩, rfl⟩
end Ty
end Go.Ob

