/- The closed facts on the types of this translation; written by a program (gen.py). -/
import Derived.Test.YtkmgogabbefonaaDoorChecked
import Derived.Test.YtkmgogabbefonaaDoorObV
set_option linter.unusedVariables false
set_option linter.unusedSimpArgs false
namespace Go.Ob
open Go.Proofs
namespace Ty
theorem follows : Tryd.prog.follows .mixedOrders = true := by kernel_rfl
theorem one3 : OneT Tryd.prog 3 := ⟨Tryd.isAgg3, Tryd.sizeOf3⟩
theorem zero3 : ZeroT Tryd.prog 3 [.int .i64 0] := ⟨⟨_, Tryd.zeroValue3, rfl⟩, rfl⟩
theorem one4 : OneT Tryd.prog 4 := ⟨Tryd.isAgg4, Tryd.sizeOf4⟩
theorem zero4 : ZeroT Tryd.prog 4 [.bool false] := ⟨⟨_, Tryd.zeroValue4, rfl⟩, rfl⟩
theorem one5 : OneT Tryd.prog 5 := ⟨Tryd.isAgg5, Tryd.sizeOf5⟩
theorem zero5 : ZeroT Tryd.prog 5 [.int .u8 0] := ⟨⟨_, Tryd.zeroValue5, rfl⟩, rfl⟩
theorem one9 : OneT Tryd.prog 9 := ⟨Tryd.isAgg9, Tryd.sizeOf9⟩
theorem zero9 : ZeroT Tryd.prog 9 [.string ⟨#[]⟩] := ⟨⟨_, Tryd.zeroValue9, rfl⟩, rfl⟩
theorem one12 : OneT Tryd.prog 12 := ⟨Tryd.isAgg12, Tryd.sizeOf12⟩
theorem zero12 : ZeroT Tryd.prog 12 [.int .u64 0] := ⟨⟨_, Tryd.zeroValue12, rfl⟩, rfl⟩
theorem one21 : OneT Tryd.prog 21 := ⟨Tryd.isAgg21, Tryd.sizeOf21⟩
theorem zero21 : ZeroT Tryd.prog 21 [.int .i32 0] := ⟨⟨_, Tryd.zeroValue21, rfl⟩, rfl⟩
theorem agg23 : AggT Tryd.prog 23 4 := ⟨Tryd.isAgg23, Tryd.sizeOf23⟩
theorem fv23_0 : FieldV Tryd.prog 23 0 0 3 := ⟨⟨_, _, Tryd.underlying23, rfl, rfl, rfl⟩⟩
theorem f23_0 : FieldT Tryd.prog 23 0 0 := ⟨⟨_, _, 0, Tryd.underlying23, rfl, rfl, Tryd.sizeOf3⟩⟩
theorem fv23_1 : FieldV Tryd.prog 23 1 1 3 := ⟨⟨_, _, Tryd.underlying23, rfl, rfl, rfl⟩⟩
theorem f23_1 : FieldT Tryd.prog 23 1 1 := ⟨⟨_, _, 0, Tryd.underlying23, rfl, rfl, Tryd.sizeOf3⟩⟩
theorem fv23_2 : FieldV Tryd.prog 23 2 2 3 := ⟨⟨_, _, Tryd.underlying23, rfl, rfl, rfl⟩⟩
theorem f23_2 : FieldT Tryd.prog 23 2 2 := ⟨⟨_, _, 0, Tryd.underlying23, rfl, rfl, Tryd.sizeOf3⟩⟩
theorem fv23_3 : FieldV Tryd.prog 23 3 3 4 := ⟨⟨_, _, Tryd.underlying23, rfl, rfl, rfl⟩⟩
theorem f23_3 : FieldT Tryd.prog 23 3 3 := ⟨⟨_, _, 0, Tryd.underlying23, rfl, rfl, Tryd.sizeOf4⟩⟩
theorem pl23 : PlacesT Tryd.prog 23 [(0, 1), (1, 1), (2, 1), (3, 1)] := ⟨⟨_, Tryd.underlying23, fun w => by kernel_rfl⟩⟩
theorem eqm23 : EqM Tryd.prog 23 [true, true, true, false] := ⟨Tryd.eqGuardType23, by
  intro w xs ys h1 h2
  match xs, ys, h1, h2 with
  | [.i a0, .i a1, .i a2, .b a3], [.i b0, .i b1, .i b2, .b b3], _, _ =>
    simp only [List.map_cons, List.map_nil, MV.v]
    go_simp
    repeat' split
    all_goals simp_all⟩
theorem zero23 : ZeroT Tryd.prog 23 [.int .i64 0, .int .i64 0, .int .i64 0, .bool false] := ⟨⟨_, Tryd.zeroValue23, rfl⟩, rfl⟩
theorem one26 : OneT Tryd.prog 26 := ⟨Tryd.isAgg26, Tryd.sizeOf26⟩
theorem zero26 : ZeroT Tryd.prog 26 [.int .i64 0] := ⟨⟨_, Tryd.zeroValue26, rfl⟩, rfl⟩
theorem one29 : OneT Tryd.prog 29 := ⟨Tryd.isAgg29, Tryd.sizeOf29⟩
theorem sl29 : SliceT Tryd.prog 29 9 1 := ⟨Tryd.underlying29, Tryd.sizeOf9⟩
theorem app29 : AppT Tryd.prog 29 9 1 16 := ⟨by decide, Tryd.underlying29, Tryd.sizeOf9, ⟨Tryd.t9, _, by kernel_rfl, rfl, rfl, rfl, rfl⟩⟩
theorem zero29 : ZeroT Tryd.prog 29 [.slice none 0 0] := ⟨⟨_, Tryd.zeroValue29, rfl⟩, rfl⟩
theorem one35 : OneT Tryd.prog 35 := ⟨Tryd.isAgg35, Tryd.sizeOf35⟩
theorem sl35 : SliceT Tryd.prog 35 3 1 := ⟨Tryd.underlying35, Tryd.sizeOf3⟩
theorem app35 : AppT Tryd.prog 35 3 1 8 := ⟨by decide, Tryd.underlying35, Tryd.sizeOf3, ⟨Tryd.t3, _, by kernel_rfl, rfl, rfl, rfl, rfl⟩⟩
theorem zero35 : ZeroT Tryd.prog 35 [.slice none 0 0] := ⟨⟨_, Tryd.zeroValue35, rfl⟩, rfl⟩
theorem one47 : OneT Tryd.prog 47 := ⟨Tryd.isAgg47, Tryd.sizeOf47⟩
theorem sl47 : SliceT Tryd.prog 47 23 4 := ⟨Tryd.underlying47, Tryd.sizeOf23⟩
theorem app47 : AppT Tryd.prog 47 23 4 32 := ⟨by decide, Tryd.underlying47, Tryd.sizeOf23, ⟨Tryd.t23, _, by kernel_rfl, rfl, rfl, rfl, rfl⟩⟩
theorem zero47 : ZeroT Tryd.prog 47 [.slice none 0 0] := ⟨⟨_, Tryd.zeroValue47, rfl⟩, rfl⟩
theorem agg54 : AggT Tryd.prog 54 4 := ⟨Tryd.isAgg54, Tryd.sizeOf54⟩
theorem pa54 : ArrT Tryd.prog 54 4 3 1 := ⟨Tryd.underlying54, Tryd.sizeOf3⟩
theorem zero54 : ZeroT Tryd.prog 54 [.int .i64 0, .int .i64 0, .int .i64 0, .int .i64 0] := ⟨⟨_, Tryd.zeroValue54, rfl⟩, rfl⟩
theorem agg56 : AggT Tryd.prog 56 2 := ⟨Tryd.isAgg56, Tryd.sizeOf56⟩
theorem fv56_0 : FieldV Tryd.prog 56 0 0 3 := ⟨⟨_, _, Tryd.underlying56, rfl, rfl, rfl⟩⟩
theorem f56_0 : FieldT Tryd.prog 56 0 0 := ⟨⟨_, _, 0, Tryd.underlying56, rfl, rfl, Tryd.sizeOf3⟩⟩
theorem fv56_1 : FieldV Tryd.prog 56 1 1 3 := ⟨⟨_, _, Tryd.underlying56, rfl, rfl, rfl⟩⟩
theorem f56_1 : FieldT Tryd.prog 56 1 1 := ⟨⟨_, _, 0, Tryd.underlying56, rfl, rfl, Tryd.sizeOf3⟩⟩
theorem pl56 : PlacesT Tryd.prog 56 [(0, 1), (1, 1)] := ⟨⟨_, Tryd.underlying56, fun w => by kernel_rfl⟩⟩
theorem eq56 : EqT Tryd.prog 56 2 := ⟨Tryd.eqGuardType56, by
  intro w xs ys h1 h2
  match xs, ys, h1, h2 with
  | [a0, a1], [b0, b1], _, _ =>
    simp only [List.map_cons, List.map_nil]
    go_simp
    repeat' split
    all_goals simp_all⟩
theorem zero56 : ZeroT Tryd.prog 56 [.int .i64 0, .int .i64 0] := ⟨⟨_, Tryd.zeroValue56, rfl⟩, rfl⟩
theorem one57 : OneT Tryd.prog 57 := ⟨Tryd.isAgg57, Tryd.sizeOf57⟩
theorem sl57 : SliceT Tryd.prog 57 56 2 := ⟨Tryd.underlying57, Tryd.sizeOf56⟩
theorem app57 : AppT Tryd.prog 57 56 2 16 := ⟨by decide, Tryd.underlying57, Tryd.sizeOf56, ⟨Tryd.t56, _, by kernel_rfl, rfl, rfl, rfl, rfl⟩⟩
theorem zero57 : ZeroT Tryd.prog 57 [.slice none 0 0] := ⟨⟨_, Tryd.zeroValue57, rfl⟩, rfl⟩
theorem one66 : OneT Tryd.prog 66 := ⟨Tryd.isAgg66, Tryd.sizeOf66⟩
theorem agg68 : AggT Tryd.prog 68 2 := ⟨Tryd.isAgg68, Tryd.sizeOf68⟩
theorem pa68 : ArrT Tryd.prog 68 2 3 1 := ⟨Tryd.underlying68, Tryd.sizeOf3⟩
theorem zero68 : ZeroT Tryd.prog 68 [.int .i64 0, .int .i64 0] := ⟨⟨_, Tryd.zeroValue68, rfl⟩, rfl⟩
theorem one71 : OneT Tryd.prog 71 := ⟨Tryd.isAgg71, Tryd.sizeOf71⟩
theorem agg76 : AggT Tryd.prog 76 6 := ⟨Tryd.isAgg76, Tryd.sizeOf76⟩
theorem fv76_0 : FieldV Tryd.prog 76 0 0 3 := ⟨⟨_, _, Tryd.underlying76, rfl, rfl, rfl⟩⟩
theorem f76_0 : FieldT Tryd.prog 76 0 0 := ⟨⟨_, _, 0, Tryd.underlying76, rfl, rfl, Tryd.sizeOf3⟩⟩
theorem fv76_1 : FieldV Tryd.prog 76 1 1 3 := ⟨⟨_, _, Tryd.underlying76, rfl, rfl, rfl⟩⟩
theorem f76_1 : FieldT Tryd.prog 76 1 1 := ⟨⟨_, _, 0, Tryd.underlying76, rfl, rfl, Tryd.sizeOf3⟩⟩
theorem fv76_2 : FieldV Tryd.prog 76 2 2 3 := ⟨⟨_, _, Tryd.underlying76, rfl, rfl, rfl⟩⟩
theorem f76_2 : FieldT Tryd.prog 76 2 2 := ⟨⟨_, _, 0, Tryd.underlying76, rfl, rfl, Tryd.sizeOf3⟩⟩
theorem fv76_3 : FieldV Tryd.prog 76 3 3 3 := ⟨⟨_, _, Tryd.underlying76, rfl, rfl, rfl⟩⟩
theorem f76_3 : FieldT Tryd.prog 76 3 3 := ⟨⟨_, _, 0, Tryd.underlying76, rfl, rfl, Tryd.sizeOf3⟩⟩
theorem fv76_4 : FieldV Tryd.prog 76 4 4 3 := ⟨⟨_, _, Tryd.underlying76, rfl, rfl, rfl⟩⟩
theorem f76_4 : FieldT Tryd.prog 76 4 4 := ⟨⟨_, _, 0, Tryd.underlying76, rfl, rfl, Tryd.sizeOf3⟩⟩
theorem fv76_5 : FieldV Tryd.prog 76 5 5 9 := ⟨⟨_, _, Tryd.underlying76, rfl, rfl, rfl⟩⟩
theorem f76_5 : FieldT Tryd.prog 76 5 5 := ⟨⟨_, _, 0, Tryd.underlying76, rfl, rfl, Tryd.sizeOf9⟩⟩
theorem pl76 : PlacesT Tryd.prog 76 [(0, 1), (1, 1), (2, 1), (3, 1), (4, 1), (5, 1)] := ⟨⟨_, Tryd.underlying76, fun w => by kernel_rfl⟩⟩
theorem zero76 : ZeroT Tryd.prog 76 [.int .i64 0, .int .i64 0, .int .i64 0, .int .i64 0, .int .i64 0, .string ⟨#[]⟩] := ⟨⟨_, Tryd.zeroValue76, rfl⟩, rfl⟩
theorem agg83 : AggT Tryd.prog 83 256 := ⟨Tryd.isAgg83, Tryd.sizeOf83⟩
theorem pa83 : ArrT Tryd.prog 83 256 5 1 := ⟨Tryd.underlying83, Tryd.sizeOf5⟩
theorem agg85 : AggT Tryd.prog 85 2 := ⟨Tryd.isAgg85, Tryd.sizeOf85⟩
theorem fv85_0 : FieldV Tryd.prog 85 0 0 5 := ⟨⟨_, _, Tryd.underlying85, rfl, rfl, rfl⟩⟩
theorem f85_0 : FieldT Tryd.prog 85 0 0 := ⟨⟨_, _, 0, Tryd.underlying85, rfl, rfl, Tryd.sizeOf5⟩⟩
theorem fv85_1 : FieldV Tryd.prog 85 1 1 5 := ⟨⟨_, _, Tryd.underlying85, rfl, rfl, rfl⟩⟩
theorem f85_1 : FieldT Tryd.prog 85 1 1 := ⟨⟨_, _, 0, Tryd.underlying85, rfl, rfl, Tryd.sizeOf5⟩⟩
theorem pl85 : PlacesT Tryd.prog 85 [(0, 1), (1, 1)] := ⟨⟨_, Tryd.underlying85, fun w => by kernel_rfl⟩⟩
theorem zero85 : ZeroT Tryd.prog 85 [.int .u8 0, .int .u8 0] := ⟨⟨_, Tryd.zeroValue85, rfl⟩, rfl⟩
theorem agg86 : AggT Tryd.prog 86 32 := ⟨Tryd.isAgg86, Tryd.sizeOf86⟩
theorem pa86 : ArrT Tryd.prog 86 16 85 2 := ⟨Tryd.underlying86, Tryd.sizeOf85⟩
theorem zero86 : ZeroT Tryd.prog 86 [.int .u8 0, .int .u8 0, .int .u8 0, .int .u8 0, .int .u8 0, .int .u8 0, .int .u8 0, .int .u8 0, .int .u8 0, .int .u8 0, .int .u8 0, .int .u8 0, .int .u8 0, .int .u8 0, .int .u8 0, .int .u8 0, .int .u8 0, .int .u8 0, .int .u8 0, .int .u8 0, .int .u8 0, .int .u8 0, .int .u8 0, .int .u8 0, .int .u8 0, .int .u8 0, .int .u8 0, .int .u8 0, .int .u8 0, .int .u8 0, .int .u8 0, .int .u8 0] := ⟨⟨_, Tryd.zeroValue86, rfl⟩, rfl⟩
theorem one87 : OneT Tryd.prog 87 := ⟨Tryd.isAgg87, Tryd.sizeOf87⟩
theorem zero87 : ZeroT Tryd.prog 87 [.int .u64 0] := ⟨⟨_, Tryd.zeroValue87, rfl⟩, rfl⟩
theorem one88 : OneT Tryd.prog 88 := ⟨Tryd.isAgg88, Tryd.sizeOf88⟩
theorem one89 : OneT Tryd.prog 89 := ⟨Tryd.isAgg89, Tryd.sizeOf89⟩
theorem sl89 : SliceT Tryd.prog 89 108 3 := ⟨Tryd.underlying89, Tryd.sizeOf108⟩
theorem app89 : AppT Tryd.prog 89 108 3 24 := ⟨by decide, Tryd.underlying89, Tryd.sizeOf108, ⟨Tryd.t108, _, by kernel_rfl, rfl, rfl, rfl, rfl⟩⟩
theorem zero89 : ZeroT Tryd.prog 89 [.slice none 0 0] := ⟨⟨_, Tryd.zeroValue89, rfl⟩, rfl⟩
theorem agg92 : AggT Tryd.prog 92 4 := ⟨Tryd.isAgg92, Tryd.sizeOf92⟩
theorem fv92_0 : FieldV Tryd.prog 92 0 0 3 := ⟨⟨_, _, Tryd.underlying92, rfl, rfl, rfl⟩⟩
theorem f92_0 : FieldT Tryd.prog 92 0 0 := ⟨⟨_, _, 0, Tryd.underlying92, rfl, rfl, Tryd.sizeOf3⟩⟩
theorem fv92_1 : FieldV Tryd.prog 92 1 1 4 := ⟨⟨_, _, Tryd.underlying92, rfl, rfl, rfl⟩⟩
theorem f92_1 : FieldT Tryd.prog 92 1 1 := ⟨⟨_, _, 0, Tryd.underlying92, rfl, rfl, Tryd.sizeOf4⟩⟩
theorem fv92_2 : FieldV Tryd.prog 92 2 2 4 := ⟨⟨_, _, Tryd.underlying92, rfl, rfl, rfl⟩⟩
theorem f92_2 : FieldT Tryd.prog 92 2 2 := ⟨⟨_, _, 0, Tryd.underlying92, rfl, rfl, Tryd.sizeOf4⟩⟩
theorem fv92_3 : FieldV Tryd.prog 92 3 3 3 := ⟨⟨_, _, Tryd.underlying92, rfl, rfl, rfl⟩⟩
theorem f92_3 : FieldT Tryd.prog 92 3 3 := ⟨⟨_, _, 0, Tryd.underlying92, rfl, rfl, Tryd.sizeOf3⟩⟩
theorem pl92 : PlacesT Tryd.prog 92 [(0, 1), (1, 1), (2, 1), (3, 1)] := ⟨⟨_, Tryd.underlying92, fun w => by kernel_rfl⟩⟩
theorem eqm92 : EqM Tryd.prog 92 [true, false, false, true] := ⟨Tryd.eqGuardType92, by
  intro w xs ys h1 h2
  match xs, ys, h1, h2 with
  | [.i a0, .b a1, .b a2, .i a3], [.i b0, .b b1, .b b2, .i b3], _, _ =>
    simp only [List.map_cons, List.map_nil, MV.v]
    go_simp
    repeat' split
    all_goals simp_all⟩
theorem zero92 : ZeroT Tryd.prog 92 [.int .i64 0, .bool false, .bool false, .int .i64 0] := ⟨⟨_, Tryd.zeroValue92, rfl⟩, rfl⟩
theorem one94 : OneT Tryd.prog 94 := ⟨Tryd.isAgg94, Tryd.sizeOf94⟩
theorem one97 : OneT Tryd.prog 97 := ⟨Tryd.isAgg97, Tryd.sizeOf97⟩
theorem sl97 : SliceT Tryd.prog 97 76 6 := ⟨Tryd.underlying97, Tryd.sizeOf76⟩
theorem app97 : AppT Tryd.prog 97 76 6 56 := ⟨by decide, Tryd.underlying97, Tryd.sizeOf76, ⟨Tryd.t76, _, by kernel_rfl, rfl, rfl, rfl, rfl⟩⟩
theorem zero97 : ZeroT Tryd.prog 97 [.slice none 0 0] := ⟨⟨_, Tryd.zeroValue97, rfl⟩, rfl⟩
theorem one101 : OneT Tryd.prog 101 := ⟨Tryd.isAgg101, Tryd.sizeOf101⟩
theorem one106 : OneT Tryd.prog 106 := ⟨Tryd.isAgg106, Tryd.sizeOf106⟩
theorem zero106 : ZeroT Tryd.prog 106 [.int .u64 0] := ⟨⟨_, Tryd.zeroValue106, rfl⟩, rfl⟩
theorem agg108 : AggT Tryd.prog 108 3 := ⟨Tryd.isAgg108, Tryd.sizeOf108⟩
theorem fv108_0 : FieldV Tryd.prog 108 0 0 3 := ⟨⟨_, _, Tryd.underlying108, rfl, rfl, rfl⟩⟩
theorem f108_0 : FieldT Tryd.prog 108 0 0 := ⟨⟨_, _, 0, Tryd.underlying108, rfl, rfl, Tryd.sizeOf3⟩⟩
theorem fv108_1 : FieldV Tryd.prog 108 1 1 3 := ⟨⟨_, _, Tryd.underlying108, rfl, rfl, rfl⟩⟩
theorem f108_1 : FieldT Tryd.prog 108 1 1 := ⟨⟨_, _, 0, Tryd.underlying108, rfl, rfl, Tryd.sizeOf3⟩⟩
theorem fv108_2 : FieldV Tryd.prog 108 2 2 3 := ⟨⟨_, _, Tryd.underlying108, rfl, rfl, rfl⟩⟩
theorem f108_2 : FieldT Tryd.prog 108 2 2 := ⟨⟨_, _, 0, Tryd.underlying108, rfl, rfl, Tryd.sizeOf3⟩⟩
theorem pl108 : PlacesT Tryd.prog 108 [(0, 1), (1, 1), (2, 1)] := ⟨⟨_, Tryd.underlying108, fun w => by kernel_rfl⟩⟩
theorem eq108 : EqT Tryd.prog 108 3 := ⟨Tryd.eqGuardType108, by
  intro w xs ys h1 h2
  match xs, ys, h1, h2 with
  | [a0, a1, a2], [b0, b1, b2], _, _ =>
    simp only [List.map_cons, List.map_nil]
    go_simp
    repeat' split
    all_goals simp_all⟩
theorem zero108 : ZeroT Tryd.prog 108 [.int .i64 0, .int .i64 0, .int .i64 0] := ⟨⟨_, Tryd.zeroValue108, rfl⟩, rfl⟩
theorem one110 : OneT Tryd.prog 110 := ⟨Tryd.isAgg110, Tryd.sizeOf110⟩
theorem zero110 : ZeroT Tryd.prog 110 [.pointer none] := ⟨⟨_, Tryd.zeroValue110, rfl⟩, rfl⟩
theorem one116 : OneT Tryd.prog 116 := ⟨Tryd.isAgg116, Tryd.sizeOf116⟩
end Ty
end Go.Ob

