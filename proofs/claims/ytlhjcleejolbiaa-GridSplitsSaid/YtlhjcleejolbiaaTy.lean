/- The closed facts on the types of this translation; written by a program (gen.py). -/
import Derived.Test.YtlhjcleejolbiaaChecked
import Derived.Test.YtlhjcleejolbiaaObT
set_option linter.unusedVariables false
set_option linter.unusedSimpArgs false
namespace Go.Ob
open Go.Proofs
namespace Ty
theorem follows : Try.prog.follows .mixedOrders = true := by kernel_rfl
theorem one3 : OneT Try.prog 3 := ⟨Try.isAgg3, Try.sizeOf3⟩
theorem zero3 : ZeroT Try.prog 3 [.int .i64 0] := ⟨⟨_, Try.zeroValue3, rfl⟩, rfl⟩
theorem one4 : OneT Try.prog 4 := ⟨Try.isAgg4, Try.sizeOf4⟩
theorem zero4 : ZeroT Try.prog 4 [.bool false] := ⟨⟨_, Try.zeroValue4, rfl⟩, rfl⟩
theorem one9 : OneT Try.prog 9 := ⟨Try.isAgg9, Try.sizeOf9⟩
theorem zero9 : ZeroT Try.prog 9 [.string ⟨#[]⟩] := ⟨⟨_, Try.zeroValue9, rfl⟩, rfl⟩
theorem one22 : OneT Try.prog 22 := ⟨Try.isAgg22, Try.sizeOf22⟩
theorem sl22 : SliceT Try.prog 22 36 6 := ⟨Try.underlying22, Try.sizeOf36⟩
theorem app22 : AppT Try.prog 22 36 6 112 := ⟨by decide, Try.underlying22, Try.sizeOf36, ⟨Try.t36, _, by kernel_rfl, rfl, rfl, rfl, rfl⟩⟩
theorem zero22 : ZeroT Try.prog 22 [.slice none 0 0] := ⟨⟨_, Try.zeroValue22, rfl⟩, rfl⟩
theorem one25 : OneT Try.prog 25 := ⟨Try.isAgg25, Try.sizeOf25⟩
theorem sl25 : SliceT Try.prog 25 40 6 := ⟨Try.underlying25, Try.sizeOf40⟩
theorem app25 : AppT Try.prog 25 40 6 48 := ⟨by decide, Try.underlying25, Try.sizeOf40, ⟨Try.t40, _, by kernel_rfl, rfl, rfl, rfl, rfl⟩⟩
theorem zero25 : ZeroT Try.prog 25 [.slice none 0 0] := ⟨⟨_, Try.zeroValue25, rfl⟩, rfl⟩
theorem one27 : OneT Try.prog 27 := ⟨Try.isAgg27, Try.sizeOf27⟩
theorem sl27 : SliceT Try.prog 27 77 2 := ⟨Try.underlying27, Try.sizeOf77⟩
theorem app27 : AppT Try.prog 27 77 2 16 := ⟨by decide, Try.underlying27, Try.sizeOf77, ⟨Try.t77, _, by kernel_rfl, rfl, rfl, rfl, rfl⟩⟩
theorem zero27 : ZeroT Try.prog 27 [.slice none 0 0] := ⟨⟨_, Try.zeroValue27, rfl⟩, rfl⟩
theorem one28 : OneT Try.prog 28 := ⟨Try.isAgg28, Try.sizeOf28⟩
theorem sl28 : SliceT Try.prog 28 111 2 := ⟨Try.underlying28, Try.sizeOf111⟩
theorem app28 : AppT Try.prog 28 111 2 16 := ⟨by decide, Try.underlying28, Try.sizeOf111, ⟨Try.t111, _, by kernel_rfl, rfl, rfl, rfl, rfl⟩⟩
theorem zero28 : ZeroT Try.prog 28 [.slice none 0 0] := ⟨⟨_, Try.zeroValue28, rfl⟩, rfl⟩
theorem one29 : OneT Try.prog 29 := ⟨Try.isAgg29, Try.sizeOf29⟩
theorem sl29 : SliceT Try.prog 29 113 4 := ⟨Try.underlying29, Try.sizeOf113⟩
theorem app29 : AppT Try.prog 29 113 4 32 := ⟨by decide, Try.underlying29, Try.sizeOf113, ⟨Try.t113, _, by kernel_rfl, rfl, rfl, rfl, rfl⟩⟩
theorem zero29 : ZeroT Try.prog 29 [.slice none 0 0] := ⟨⟨_, Try.zeroValue29, rfl⟩, rfl⟩
theorem agg31 : AggT Try.prog 31 4 := ⟨Try.isAgg31, Try.sizeOf31⟩
theorem fv31_0 : FieldV Try.prog 31 0 0 3 := ⟨⟨_, _, Try.underlying31, rfl, rfl, rfl⟩⟩
theorem f31_0 : FieldT Try.prog 31 0 0 := ⟨⟨_, _, 0, Try.underlying31, rfl, rfl, Try.sizeOf3⟩⟩
theorem fv31_1 : FieldV Try.prog 31 1 1 3 := ⟨⟨_, _, Try.underlying31, rfl, rfl, rfl⟩⟩
theorem f31_1 : FieldT Try.prog 31 1 1 := ⟨⟨_, _, 0, Try.underlying31, rfl, rfl, Try.sizeOf3⟩⟩
theorem fv31_2 : FieldV Try.prog 31 2 2 28 := ⟨⟨_, _, Try.underlying31, rfl, rfl, rfl⟩⟩
theorem f31_2 : FieldT Try.prog 31 2 2 := ⟨⟨_, _, 0, Try.underlying31, rfl, rfl, Try.sizeOf28⟩⟩
theorem fv31_3 : FieldV Try.prog 31 3 3 29 := ⟨⟨_, _, Try.underlying31, rfl, rfl, rfl⟩⟩
theorem f31_3 : FieldT Try.prog 31 3 3 := ⟨⟨_, _, 0, Try.underlying31, rfl, rfl, Try.sizeOf29⟩⟩
theorem pl31 : PlacesT Try.prog 31 [(0, 1), (1, 1), (2, 1), (3, 1)] := ⟨⟨_, Try.underlying31, fun w => by kernel_rfl⟩⟩
theorem zero31 : ZeroT Try.prog 31 [.int .i64 0, .int .i64 0, .slice none 0 0, .slice none 0 0] := ⟨⟨_, Try.zeroValue31, rfl⟩, rfl⟩
theorem agg33 : AggT Try.prog 33 5 := ⟨Try.isAgg33, Try.sizeOf33⟩
theorem fv33_0 : FieldV Try.prog 33 0 0 27 := ⟨⟨_, _, Try.underlying33, rfl, rfl, rfl⟩⟩
theorem f33_0 : FieldT Try.prog 33 0 0 := ⟨⟨_, _, 0, Try.underlying33, rfl, rfl, Try.sizeOf27⟩⟩
theorem fv33_1 : FieldV Try.prog 33 1 1 31 := ⟨⟨_, _, Try.underlying33, rfl, rfl, rfl⟩⟩
theorem f33_1 : FieldT Try.prog 33 1 1 := ⟨⟨_, _, 3, Try.underlying33, rfl, rfl, Try.sizeOf31⟩⟩
theorem pl33 : PlacesT Try.prog 33 [(0, 1), (1, 4)] := ⟨⟨_, Try.underlying33, fun w => by kernel_rfl⟩⟩
theorem zero33 : ZeroT Try.prog 33 [.slice none 0 0, .int .i64 0, .int .i64 0, .slice none 0 0, .slice none 0 0] := ⟨⟨_, Try.zeroValue33, rfl⟩, rfl⟩
theorem one34 : OneT Try.prog 34 := ⟨Try.isAgg34, Try.sizeOf34⟩
theorem sl34 : SliceT Try.prog 34 74 7 := ⟨Try.underlying34, Try.sizeOf74⟩
theorem app34 : AppT Try.prog 34 74 7 120 := ⟨by decide, Try.underlying34, Try.sizeOf74, ⟨Try.t74, _, by kernel_rfl, rfl, rfl, rfl, rfl⟩⟩
theorem zero34 : ZeroT Try.prog 34 [.slice none 0 0] := ⟨⟨_, Try.zeroValue34, rfl⟩, rfl⟩
theorem agg36 : AggT Try.prog 36 6 := ⟨Try.isAgg36, Try.sizeOf36⟩
theorem fv36_0 : FieldV Try.prog 36 0 0 33 := ⟨⟨_, _, Try.underlying36, rfl, rfl, rfl⟩⟩
theorem f36_0 : FieldT Try.prog 36 0 0 := ⟨⟨_, _, 4, Try.underlying36, rfl, rfl, Try.sizeOf33⟩⟩
theorem fv36_1 : FieldV Try.prog 36 1 5 34 := ⟨⟨_, _, Try.underlying36, rfl, rfl, rfl⟩⟩
theorem f36_1 : FieldT Try.prog 36 1 5 := ⟨⟨_, _, 0, Try.underlying36, rfl, rfl, Try.sizeOf34⟩⟩
theorem pl36 : PlacesT Try.prog 36 [(0, 5), (5, 1)] := ⟨⟨_, Try.underlying36, fun w => by kernel_rfl⟩⟩
theorem zero36 : ZeroT Try.prog 36 [.slice none 0 0, .int .i64 0, .int .i64 0, .slice none 0 0, .slice none 0 0, .slice none 0 0] := ⟨⟨_, Try.zeroValue36, rfl⟩, rfl⟩
theorem agg38 : AggT Try.prog 38 4 := ⟨Try.isAgg38, Try.sizeOf38⟩
theorem fv38_0 : FieldV Try.prog 38 0 0 3 := ⟨⟨_, _, Try.underlying38, rfl, rfl, rfl⟩⟩
theorem f38_0 : FieldT Try.prog 38 0 0 := ⟨⟨_, _, 0, Try.underlying38, rfl, rfl, Try.sizeOf3⟩⟩
theorem fv38_1 : FieldV Try.prog 38 1 1 3 := ⟨⟨_, _, Try.underlying38, rfl, rfl, rfl⟩⟩
theorem f38_1 : FieldT Try.prog 38 1 1 := ⟨⟨_, _, 0, Try.underlying38, rfl, rfl, Try.sizeOf3⟩⟩
theorem fv38_2 : FieldV Try.prog 38 2 2 3 := ⟨⟨_, _, Try.underlying38, rfl, rfl, rfl⟩⟩
theorem f38_2 : FieldT Try.prog 38 2 2 := ⟨⟨_, _, 0, Try.underlying38, rfl, rfl, Try.sizeOf3⟩⟩
theorem fv38_3 : FieldV Try.prog 38 3 3 3 := ⟨⟨_, _, Try.underlying38, rfl, rfl, rfl⟩⟩
theorem f38_3 : FieldT Try.prog 38 3 3 := ⟨⟨_, _, 0, Try.underlying38, rfl, rfl, Try.sizeOf3⟩⟩
theorem pl38 : PlacesT Try.prog 38 [(0, 1), (1, 1), (2, 1), (3, 1)] := ⟨⟨_, Try.underlying38, fun w => by kernel_rfl⟩⟩
theorem eq38 : EqT Try.prog 38 4 := ⟨Try.eqGuardType38, by
  intro w xs ys h1 h2
  match xs, ys, h1, h2 with
  | [a0, a1, a2, a3], [b0, b1, b2, b3], _, _ =>
    simp only [List.map_cons, List.map_nil]
    go_simp
    repeat' split
    all_goals simp_all⟩
theorem zero38 : ZeroT Try.prog 38 [.int .i64 0, .int .i64 0, .int .i64 0, .int .i64 0] := ⟨⟨_, Try.zeroValue38, rfl⟩, rfl⟩
theorem agg40 : AggT Try.prog 40 6 := ⟨Try.isAgg40, Try.sizeOf40⟩
theorem fv40_0 : FieldV Try.prog 40 0 0 3 := ⟨⟨_, _, Try.underlying40, rfl, rfl, rfl⟩⟩
theorem f40_0 : FieldT Try.prog 40 0 0 := ⟨⟨_, _, 0, Try.underlying40, rfl, rfl, Try.sizeOf3⟩⟩
theorem fv40_1 : FieldV Try.prog 40 1 1 3 := ⟨⟨_, _, Try.underlying40, rfl, rfl, rfl⟩⟩
theorem f40_1 : FieldT Try.prog 40 1 1 := ⟨⟨_, _, 0, Try.underlying40, rfl, rfl, Try.sizeOf3⟩⟩
theorem fv40_2 : FieldV Try.prog 40 2 2 38 := ⟨⟨_, _, Try.underlying40, rfl, rfl, rfl⟩⟩
theorem f40_2 : FieldT Try.prog 40 2 2 := ⟨⟨_, _, 3, Try.underlying40, rfl, rfl, Try.sizeOf38⟩⟩
theorem pl40 : PlacesT Try.prog 40 [(0, 1), (1, 1), (2, 4)] := ⟨⟨_, Try.underlying40, fun w => by kernel_rfl⟩⟩
theorem eq40 : EqT Try.prog 40 6 := ⟨Try.eqGuardType40, by
  intro w xs ys h1 h2
  match xs, ys, h1, h2 with
  | [a0, a1, a2, a3, a4, a5], [b0, b1, b2, b3, b4, b5], _, _ =>
    simp only [List.map_cons, List.map_nil]
    go_simp
    repeat' split
    all_goals simp_all⟩
theorem zero40 : ZeroT Try.prog 40 [.int .i64 0, .int .i64 0, .int .i64 0, .int .i64 0, .int .i64 0, .int .i64 0] := ⟨⟨_, Try.zeroValue40, rfl⟩, rfl⟩
theorem one41 : OneT Try.prog 41 := ⟨Try.isAgg41, Try.sizeOf41⟩
theorem zero41 : ZeroT Try.prog 41 [.int .i64 0] := ⟨⟨_, Try.zeroValue41, rfl⟩, rfl⟩
theorem one44 : OneT Try.prog 44 := ⟨Try.isAgg44, Try.sizeOf44⟩
theorem sl44 : SliceT Try.prog 44 51 2 := ⟨Try.underlying44, Try.sizeOf51⟩
theorem app44 : AppT Try.prog 44 51 2 16 := ⟨by decide, Try.underlying44, Try.sizeOf51, ⟨Try.t51, _, by kernel_rfl, rfl, rfl, rfl, rfl⟩⟩
theorem zero44 : ZeroT Try.prog 44 [.slice none 0 0] := ⟨⟨_, Try.zeroValue44, rfl⟩, rfl⟩
theorem agg51 : AggT Try.prog 51 2 := ⟨Try.isAgg51, Try.sizeOf51⟩
theorem fv51_0 : FieldV Try.prog 51 0 0 3 := ⟨⟨_, _, Try.underlying51, rfl, rfl, rfl⟩⟩
theorem f51_0 : FieldT Try.prog 51 0 0 := ⟨⟨_, _, 0, Try.underlying51, rfl, rfl, Try.sizeOf3⟩⟩
theorem fv51_1 : FieldV Try.prog 51 1 1 3 := ⟨⟨_, _, Try.underlying51, rfl, rfl, rfl⟩⟩
theorem f51_1 : FieldT Try.prog 51 1 1 := ⟨⟨_, _, 0, Try.underlying51, rfl, rfl, Try.sizeOf3⟩⟩
theorem pl51 : PlacesT Try.prog 51 [(0, 1), (1, 1)] := ⟨⟨_, Try.underlying51, fun w => by kernel_rfl⟩⟩
theorem eq51 : EqT Try.prog 51 2 := ⟨Try.eqGuardType51, by
  intro w xs ys h1 h2
  match xs, ys, h1, h2 with
  | [a0, a1], [b0, b1], _, _ =>
    simp only [List.map_cons, List.map_nil]
    go_simp
    repeat' split
    all_goals simp_all⟩
theorem key51 : KeyT Try.prog 51 isPair := KeyT.pair Try.underlying51 (fun em a b w => by kernel_rfl) (fun w a b c d => by
  have := eq51.eq w [a, b] [c, d] rfl rfl
  simpa [pairV, Op.equal, Op.maxDepth] using this)
theorem zero51 : ZeroT Try.prog 51 [.int .i64 0, .int .i64 0] := ⟨⟨_, Try.zeroValue51, rfl⟩, rfl⟩
theorem agg62 : AggT Try.prog 62 3 := ⟨Try.isAgg62, Try.sizeOf62⟩
theorem fv62_0 : FieldV Try.prog 62 0 0 3 := ⟨⟨_, _, Try.underlying62, rfl, rfl, rfl⟩⟩
theorem f62_0 : FieldT Try.prog 62 0 0 := ⟨⟨_, _, 0, Try.underlying62, rfl, rfl, Try.sizeOf3⟩⟩
theorem fv62_1 : FieldV Try.prog 62 1 1 3 := ⟨⟨_, _, Try.underlying62, rfl, rfl, rfl⟩⟩
theorem f62_1 : FieldT Try.prog 62 1 1 := ⟨⟨_, _, 0, Try.underlying62, rfl, rfl, Try.sizeOf3⟩⟩
theorem fv62_2 : FieldV Try.prog 62 2 2 3 := ⟨⟨_, _, Try.underlying62, rfl, rfl, rfl⟩⟩
theorem f62_2 : FieldT Try.prog 62 2 2 := ⟨⟨_, _, 0, Try.underlying62, rfl, rfl, Try.sizeOf3⟩⟩
theorem pl62 : PlacesT Try.prog 62 [(0, 1), (1, 1), (2, 1)] := ⟨⟨_, Try.underlying62, fun w => by kernel_rfl⟩⟩
theorem eq62 : EqT Try.prog 62 3 := ⟨Try.eqGuardType62, by
  intro w xs ys h1 h2
  match xs, ys, h1, h2 with
  | [a0, a1, a2], [b0, b1, b2], _, _ =>
    simp only [List.map_cons, List.map_nil]
    go_simp
    repeat' split
    all_goals simp_all⟩
theorem zero62 : ZeroT Try.prog 62 [.int .i64 0, .int .i64 0, .int .i64 0] := ⟨⟨_, Try.zeroValue62, rfl⟩, rfl⟩
theorem one71 : OneT Try.prog 71 := ⟨Try.isAgg71, Try.sizeOf71⟩
theorem sl71 : SliceT Try.prog 71 38 4 := ⟨Try.underlying71, Try.sizeOf38⟩
theorem app71 : AppT Try.prog 71 38 4 32 := ⟨by decide, Try.underlying71, Try.sizeOf38, ⟨Try.t38, _, by kernel_rfl, rfl, rfl, rfl, rfl⟩⟩
theorem zero71 : ZeroT Try.prog 71 [.slice none 0 0] := ⟨⟨_, Try.zeroValue71, rfl⟩, rfl⟩
theorem one72 : OneT Try.prog 72 := ⟨Try.isAgg72, Try.sizeOf72⟩
theorem sl72 : SliceT Try.prog 72 115 11 := ⟨Try.underlying72, Try.sizeOf115⟩
theorem app72 : AppT Try.prog 72 115 11 176 := ⟨by decide, Try.underlying72, Try.sizeOf115, ⟨Try.t115, _, by kernel_rfl, rfl, rfl, rfl, rfl⟩⟩
theorem zero72 : ZeroT Try.prog 72 [.slice none 0 0] := ⟨⟨_, Try.zeroValue72, rfl⟩, rfl⟩
theorem agg74 : AggT Try.prog 74 7 := ⟨Try.isAgg74, Try.sizeOf74⟩
theorem fv74_0 : FieldV Try.prog 74 0 0 3 := ⟨⟨_, _, Try.underlying74, rfl, rfl, rfl⟩⟩
theorem f74_0 : FieldT Try.prog 74 0 0 := ⟨⟨_, _, 0, Try.underlying74, rfl, rfl, Try.sizeOf3⟩⟩
theorem fv74_1 : FieldV Try.prog 74 1 1 33 := ⟨⟨_, _, Try.underlying74, rfl, rfl, rfl⟩⟩
theorem f74_1 : FieldT Try.prog 74 1 1 := ⟨⟨_, _, 4, Try.underlying74, rfl, rfl, Try.sizeOf33⟩⟩
theorem fv74_2 : FieldV Try.prog 74 2 6 72 := ⟨⟨_, _, Try.underlying74, rfl, rfl, rfl⟩⟩
theorem f74_2 : FieldT Try.prog 74 2 6 := ⟨⟨_, _, 0, Try.underlying74, rfl, rfl, Try.sizeOf72⟩⟩
theorem pl74 : PlacesT Try.prog 74 [(0, 1), (1, 5), (6, 1)] := ⟨⟨_, Try.underlying74, fun w => by kernel_rfl⟩⟩
theorem zero74 : ZeroT Try.prog 74 [.int .i64 0, .slice none 0 0, .int .i64 0, .int .i64 0, .slice none 0 0, .slice none 0 0, .slice none 0 0] := ⟨⟨_, Try.zeroValue74, rfl⟩, rfl⟩
theorem agg77 : AggT Try.prog 77 2 := ⟨Try.isAgg77, Try.sizeOf77⟩
theorem fv77_0 : FieldV Try.prog 77 0 0 3 := ⟨⟨_, _, Try.underlying77, rfl, rfl, rfl⟩⟩
theorem f77_0 : FieldT Try.prog 77 0 0 := ⟨⟨_, _, 0, Try.underlying77, rfl, rfl, Try.sizeOf3⟩⟩
theorem fv77_1 : FieldV Try.prog 77 1 1 3 := ⟨⟨_, _, Try.underlying77, rfl, rfl, rfl⟩⟩
theorem f77_1 : FieldT Try.prog 77 1 1 := ⟨⟨_, _, 0, Try.underlying77, rfl, rfl, Try.sizeOf3⟩⟩
theorem pl77 : PlacesT Try.prog 77 [(0, 1), (1, 1)] := ⟨⟨_, Try.underlying77, fun w => by kernel_rfl⟩⟩
theorem eq77 : EqT Try.prog 77 2 := ⟨Try.eqGuardType77, by
  intro w xs ys h1 h2
  match xs, ys, h1, h2 with
  | [a0, a1], [b0, b1], _, _ =>
    simp only [List.map_cons, List.map_nil]
    go_simp
    repeat' split
    all_goals simp_all⟩
theorem zero77 : ZeroT Try.prog 77 [.int .i64 0, .int .i64 0] := ⟨⟨_, Try.zeroValue77, rfl⟩, rfl⟩
theorem one78 : OneT Try.prog 78 := ⟨Try.isAgg78, Try.sizeOf78⟩
theorem sl78 : SliceT Try.prog 78 44 1 := ⟨Try.underlying78, Try.sizeOf44⟩
theorem app78 : AppT Try.prog 78 44 1 24 := ⟨by decide, Try.underlying78, Try.sizeOf44, ⟨Try.t44, _, by kernel_rfl, rfl, rfl, rfl, rfl⟩⟩
theorem zero78 : ZeroT Try.prog 78 [.slice none 0 0] := ⟨⟨_, Try.zeroValue78, rfl⟩, rfl⟩
theorem agg81 : AggT Try.prog 81 3 := ⟨Try.isAgg81, Try.sizeOf81⟩
theorem fv81_0 : FieldV Try.prog 81 0 0 78 := ⟨⟨_, _, Try.underlying81, rfl, rfl, rfl⟩⟩
theorem f81_0 : FieldT Try.prog 81 0 0 := ⟨⟨_, _, 0, Try.underlying81, rfl, rfl, Try.sizeOf78⟩⟩
theorem fv81_1 : FieldV Try.prog 81 1 1 25 := ⟨⟨_, _, Try.underlying81, rfl, rfl, rfl⟩⟩
theorem f81_1 : FieldT Try.prog 81 1 1 := ⟨⟨_, _, 0, Try.underlying81, rfl, rfl, Try.sizeOf25⟩⟩
theorem fv81_2 : FieldV Try.prog 81 2 2 79 := ⟨⟨_, _, Try.underlying81, rfl, rfl, rfl⟩⟩
theorem f81_2 : FieldT Try.prog 81 2 2 := ⟨⟨_, _, 0, Try.underlying81, rfl, rfl, Try.sizeOf79⟩⟩
theorem pl81 : PlacesT Try.prog 81 [(0, 1), (1, 1), (2, 1)] := ⟨⟨_, Try.underlying81, fun w => by kernel_rfl⟩⟩
theorem zero81 : ZeroT Try.prog 81 [.slice none 0 0, .slice none 0 0, .map none] := ⟨⟨_, Try.zeroValue81, rfl⟩, rfl⟩
theorem agg90 : AggT Try.prog 90 2 := ⟨Try.isAgg90, Try.sizeOf90⟩
theorem pa90 : ArrT Try.prog 90 2 3 1 := ⟨Try.underlying90, Try.sizeOf3⟩
theorem key90 : KeyT Try.prog 90 isPair := KeyT.pair Try.underlying90 (fun em a b w => by kernel_rfl) (equal_array2 Try.underlying90 Try.underlying3 Try.sizeOf3 Try.isAgg3)
theorem zero90 : ZeroT Try.prog 90 [.int .i64 0, .int .i64 0] := ⟨⟨_, Try.zeroValue90, rfl⟩, rfl⟩
theorem one92 : OneT Try.prog 92 := ⟨Try.isAgg92, Try.sizeOf92⟩
theorem one95 : OneT Try.prog 95 := ⟨Try.isAgg95, Try.sizeOf95⟩
theorem zero95 : ZeroT Try.prog 95 [.pointer none] := ⟨⟨_, Try.zeroValue95, rfl⟩, rfl⟩
theorem one105 : OneT Try.prog 105 := ⟨Try.isAgg105, Try.sizeOf105⟩
theorem agg111 : AggT Try.prog 111 2 := ⟨Try.isAgg111, Try.sizeOf111⟩
theorem fv111_0 : FieldV Try.prog 111 0 0 3 := ⟨⟨_, _, Try.underlying111, rfl, rfl, rfl⟩⟩
theorem f111_0 : FieldT Try.prog 111 0 0 := ⟨⟨_, _, 0, Try.underlying111, rfl, rfl, Try.sizeOf3⟩⟩
theorem fv111_1 : FieldV Try.prog 111 1 1 3 := ⟨⟨_, _, Try.underlying111, rfl, rfl, rfl⟩⟩
theorem f111_1 : FieldT Try.prog 111 1 1 := ⟨⟨_, _, 0, Try.underlying111, rfl, rfl, Try.sizeOf3⟩⟩
theorem pl111 : PlacesT Try.prog 111 [(0, 1), (1, 1)] := ⟨⟨_, Try.underlying111, fun w => by kernel_rfl⟩⟩
theorem eq111 : EqT Try.prog 111 2 := ⟨Try.eqGuardType111, by
  intro w xs ys h1 h2
  match xs, ys, h1, h2 with
  | [a0, a1], [b0, b1], _, _ =>
    simp only [List.map_cons, List.map_nil]
    go_simp
    repeat' split
    all_goals simp_all⟩
theorem zero111 : ZeroT Try.prog 111 [.int .i64 0, .int .i64 0] := ⟨⟨_, Try.zeroValue111, rfl⟩, rfl⟩
theorem agg113 : AggT Try.prog 113 4 := ⟨Try.isAgg113, Try.sizeOf113⟩
theorem fv113_0 : FieldV Try.prog 113 0 0 3 := ⟨⟨_, _, Try.underlying113, rfl, rfl, rfl⟩⟩
theorem f113_0 : FieldT Try.prog 113 0 0 := ⟨⟨_, _, 0, Try.underlying113, rfl, rfl, Try.sizeOf3⟩⟩
theorem fv113_1 : FieldV Try.prog 113 1 1 3 := ⟨⟨_, _, Try.underlying113, rfl, rfl, rfl⟩⟩
theorem f113_1 : FieldT Try.prog 113 1 1 := ⟨⟨_, _, 0, Try.underlying113, rfl, rfl, Try.sizeOf3⟩⟩
theorem fv113_2 : FieldV Try.prog 113 2 2 3 := ⟨⟨_, _, Try.underlying113, rfl, rfl, rfl⟩⟩
theorem f113_2 : FieldT Try.prog 113 2 2 := ⟨⟨_, _, 0, Try.underlying113, rfl, rfl, Try.sizeOf3⟩⟩
theorem fv113_3 : FieldV Try.prog 113 3 3 4 := ⟨⟨_, _, Try.underlying113, rfl, rfl, rfl⟩⟩
theorem f113_3 : FieldT Try.prog 113 3 3 := ⟨⟨_, _, 0, Try.underlying113, rfl, rfl, Try.sizeOf4⟩⟩
theorem pl113 : PlacesT Try.prog 113 [(0, 1), (1, 1), (2, 1), (3, 1)] := ⟨⟨_, Try.underlying113, fun w => by kernel_rfl⟩⟩
theorem eqm113 : EqM Try.prog 113 [true, true, true, false] := ⟨Try.eqGuardType113, by
  intro w xs ys h1 h2
  match xs, ys, h1, h2 with
  | [.i a0, .i a1, .i a2, .b a3], [.i b0, .i b1, .i b2, .b b3], _, _ =>
    simp only [List.map_cons, List.map_nil, MV.v]
    go_simp
    repeat' split
    all_goals simp_all⟩
theorem zero113 : ZeroT Try.prog 113 [.int .i64 0, .int .i64 0, .int .i64 0, .bool false] := ⟨⟨_, Try.zeroValue113, rfl⟩, rfl⟩
theorem agg115 : AggT Try.prog 115 11 := ⟨Try.isAgg115, Try.sizeOf115⟩
theorem fv115_0 : FieldV Try.prog 115 0 0 3 := ⟨⟨_, _, Try.underlying115, rfl, rfl, rfl⟩⟩
theorem f115_0 : FieldT Try.prog 115 0 0 := ⟨⟨_, _, 0, Try.underlying115, rfl, rfl, Try.sizeOf3⟩⟩
theorem fv115_1 : FieldV Try.prog 115 1 1 3 := ⟨⟨_, _, Try.underlying115, rfl, rfl, rfl⟩⟩
theorem f115_1 : FieldT Try.prog 115 1 1 := ⟨⟨_, _, 0, Try.underlying115, rfl, rfl, Try.sizeOf3⟩⟩
theorem fv115_2 : FieldV Try.prog 115 2 2 3 := ⟨⟨_, _, Try.underlying115, rfl, rfl, rfl⟩⟩
theorem f115_2 : FieldT Try.prog 115 2 2 := ⟨⟨_, _, 0, Try.underlying115, rfl, rfl, Try.sizeOf3⟩⟩
theorem fv115_3 : FieldV Try.prog 115 3 3 9 := ⟨⟨_, _, Try.underlying115, rfl, rfl, rfl⟩⟩
theorem f115_3 : FieldT Try.prog 115 3 3 := ⟨⟨_, _, 0, Try.underlying115, rfl, rfl, Try.sizeOf9⟩⟩
theorem fv115_4 : FieldV Try.prog 115 4 4 33 := ⟨⟨_, _, Try.underlying115, rfl, rfl, rfl⟩⟩
theorem f115_4 : FieldT Try.prog 115 4 4 := ⟨⟨_, _, 4, Try.underlying115, rfl, rfl, Try.sizeOf33⟩⟩
theorem fv115_5 : FieldV Try.prog 115 5 9 72 := ⟨⟨_, _, Try.underlying115, rfl, rfl, rfl⟩⟩
theorem f115_5 : FieldT Try.prog 115 5 9 := ⟨⟨_, _, 0, Try.underlying115, rfl, rfl, Try.sizeOf72⟩⟩
theorem fv115_6 : FieldV Try.prog 115 6 10 22 := ⟨⟨_, _, Try.underlying115, rfl, rfl, rfl⟩⟩
theorem f115_6 : FieldT Try.prog 115 6 10 := ⟨⟨_, _, 0, Try.underlying115, rfl, rfl, Try.sizeOf22⟩⟩
theorem pl115 : PlacesT Try.prog 115 [(0, 1), (1, 1), (2, 1), (3, 1), (4, 5), (9, 1), (10, 1)] := ⟨⟨_, Try.underlying115, fun w => by kernel_rfl⟩⟩
theorem zero115 : ZeroT Try.prog 115 [.int .i64 0, .int .i64 0, .int .i64 0, .string ⟨#[]⟩, .slice none 0 0, .int .i64 0, .int .i64 0, .slice none 0 0, .slice none 0 0, .slice none 0 0, .slice none 0 0] := ⟨⟨_, Try.zeroValue115, rfl⟩, rfl⟩
theorem one120 : OneT Try.prog 120 := ⟨Try.isAgg120, Try.sizeOf120⟩
theorem agg124 : AggT Try.prog 124 6 := ⟨Try.isAgg124, Try.sizeOf124⟩
theorem fv124_0 : FieldV Try.prog 124 0 0 3 := ⟨⟨_, _, Try.underlying124, rfl, rfl, rfl⟩⟩
theorem f124_0 : FieldT Try.prog 124 0 0 := ⟨⟨_, _, 0, Try.underlying124, rfl, rfl, Try.sizeOf3⟩⟩
theorem fv124_1 : FieldV Try.prog 124 1 1 3 := ⟨⟨_, _, Try.underlying124, rfl, rfl, rfl⟩⟩
theorem f124_1 : FieldT Try.prog 124 1 1 := ⟨⟨_, _, 0, Try.underlying124, rfl, rfl, Try.sizeOf3⟩⟩
theorem fv124_2 : FieldV Try.prog 124 2 2 3 := ⟨⟨_, _, Try.underlying124, rfl, rfl, rfl⟩⟩
theorem f124_2 : FieldT Try.prog 124 2 2 := ⟨⟨_, _, 0, Try.underlying124, rfl, rfl, Try.sizeOf3⟩⟩
theorem fv124_3 : FieldV Try.prog 124 3 3 3 := ⟨⟨_, _, Try.underlying124, rfl, rfl, rfl⟩⟩
theorem f124_3 : FieldT Try.prog 124 3 3 := ⟨⟨_, _, 0, Try.underlying124, rfl, rfl, Try.sizeOf3⟩⟩
theorem fv124_4 : FieldV Try.prog 124 4 4 3 := ⟨⟨_, _, Try.underlying124, rfl, rfl, rfl⟩⟩
theorem f124_4 : FieldT Try.prog 124 4 4 := ⟨⟨_, _, 0, Try.underlying124, rfl, rfl, Try.sizeOf3⟩⟩
theorem fv124_5 : FieldV Try.prog 124 5 5 9 := ⟨⟨_, _, Try.underlying124, rfl, rfl, rfl⟩⟩
theorem f124_5 : FieldT Try.prog 124 5 5 := ⟨⟨_, _, 0, Try.underlying124, rfl, rfl, Try.sizeOf9⟩⟩
theorem pl124 : PlacesT Try.prog 124 [(0, 1), (1, 1), (2, 1), (3, 1), (4, 1), (5, 1)] := ⟨⟨_, Try.underlying124, fun w => by kernel_rfl⟩⟩
theorem zero124 : ZeroT Try.prog 124 [.int .i64 0, .int .i64 0, .int .i64 0, .int .i64 0, .int .i64 0, .string ⟨#[]⟩] := ⟨⟨_, Try.zeroValue124, rfl⟩, rfl⟩
theorem one132 : OneT Try.prog 132 := ⟨Try.isAgg132, Try.sizeOf132⟩
theorem one136 : OneT Try.prog 136 := ⟨Try.isAgg136, Try.sizeOf136⟩
theorem sl136 : SliceT Try.prog 136 124 6 := ⟨Try.underlying136, Try.sizeOf124⟩
theorem app136 : AppT Try.prog 136 124 6 56 := ⟨by decide, Try.underlying136, Try.sizeOf124, ⟨Try.t124, _, by kernel_rfl, rfl, rfl, rfl, rfl⟩⟩
theorem zero136 : ZeroT Try.prog 136 [.slice none 0 0] := ⟨⟨_, Try.zeroValue136, rfl⟩, rfl⟩
theorem one139 : OneT Try.prog 139 := ⟨Try.isAgg139, Try.sizeOf139⟩
theorem one142 : OneT Try.prog 142 := ⟨Try.isAgg142, Try.sizeOf142⟩
theorem one143 : OneT Try.prog 143 := ⟨Try.isAgg143, Try.sizeOf143⟩
theorem zero143 : ZeroT Try.prog 143 [.int .u64 0] := ⟨⟨_, Try.zeroValue143, rfl⟩, rfl⟩
theorem one79 : OneT Try.prog 79 := ⟨Try.isAgg79, Try.sizeOf79⟩
theorem map79 : MapT Try.prog 79 90 3 (.int .i64 0) isPair := ⟨Try.underlying79, Try.zeroValue3, key90⟩
theorem one103 : OneT Try.prog 103 := ⟨Try.isAgg103, Try.sizeOf103⟩
theorem map103 : MapT Try.prog 103 51 3 (.int .i64 0) isPair := ⟨Try.underlying103, Try.zeroValue3, key51⟩
end Ty
end Go.Ob

