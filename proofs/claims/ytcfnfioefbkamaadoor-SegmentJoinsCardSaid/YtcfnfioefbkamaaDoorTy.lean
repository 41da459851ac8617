/- The closed facts on the types of this translation; written by a program (gen.py). -/
import Derived.Test.YtcfnfioefbkamaaDoorChecked
import Derived.Test.YtcfnfioefbkamaaDoorObV
set_option linter.unusedVariables false
set_option linter.unusedSimpArgs false
namespace Go.Ob
open Go.Proofs
namespace Ty
theorem follows : Tryd.prog.follows .mixedOrders = true := by kernel_rfl
theorem one3 : OneT Tryd.prog 3 := ⟨Tryd.isAgg3, Tryd.sizeOf3⟩
theorem zero3 : ZeroT Tryd.prog 3 [.int .i64 0] := ⟨⟨_, Tryd.zeroValue3, rfl⟩, rfl⟩
theorem one4 : OneT Tryd.prog 4 := ⟨Tryd.isAgg4, Tryd.sizeOf4⟩
theorem zero4 : ZeroT Tryd.prog 4 [.bool false] := ⟨⟨_, Tryd.zeroValue4, rfl⟩, rfl⟩
theorem one5 : OneT Tryd.prog 5 := ⟨Tryd.isAgg5, Tryd.sizeOf5⟩
theorem zero5 : ZeroT Tryd.prog 5 [.int .u8 0] := ⟨⟨_, Tryd.zeroValue5, rfl⟩, rfl⟩
theorem one9 : OneT Tryd.prog 9 := ⟨Tryd.isAgg9, Tryd.sizeOf9⟩
theorem zero9 : ZeroT Tryd.prog 9 [.string ⟨#[]⟩] := ⟨⟨_, Tryd.zeroValue9, rfl⟩, rfl⟩
theorem one12 : OneT Tryd.prog 12 := ⟨Tryd.isAgg12, Tryd.sizeOf12⟩
theorem zero12 : ZeroT Tryd.prog 12 [.int .u64 0] := ⟨⟨_, Tryd.zeroValue12, rfl⟩, rfl⟩
theorem one21 : OneT Tryd.prog 21 := ⟨Tryd.isAgg21, Tryd.sizeOf21⟩
theorem zero21 : ZeroT Tryd.prog 21 [.int .i32 0] := ⟨⟨_, Tryd.zeroValue21, rfl⟩, rfl⟩
theorem one23 : OneT Tryd.prog 23 := ⟨Tryd.isAgg23, Tryd.sizeOf23⟩
theorem sl23 : SliceT Tryd.prog 23 32 3 := ⟨Tryd.underlying23, Tryd.sizeOf32⟩
theorem app23 : AppT Tryd.prog 23 32 3 24 := ⟨by decide, Tryd.underlying23, Tryd.sizeOf32, ⟨Tryd.t32, _, by kernel_rfl, rfl, rfl, rfl, rfl⟩⟩
theorem zero23 : ZeroT Tryd.prog 23 [.slice none 0 0] := ⟨⟨_, Tryd.zeroValue23, rfl⟩, rfl⟩
theorem one24 : OneT Tryd.prog 24 := ⟨Tryd.isAgg24, Tryd.sizeOf24⟩
theorem zero24 : ZeroT Tryd.prog 24 [.int .i64 0] := ⟨⟨_, Tryd.zeroValue24, rfl⟩, rfl⟩
theorem one27 : OneT Tryd.prog 27 := ⟨Tryd.isAgg27, Tryd.sizeOf27⟩
theorem sl27 : SliceT Tryd.prog 27 33 3 := ⟨Tryd.underlying27, Tryd.sizeOf33⟩
theorem app27 : AppT Tryd.prog 27 33 3 24 := ⟨by decide, Tryd.underlying27, Tryd.sizeOf33, ⟨Tryd.t33, _, by kernel_rfl, rfl, rfl, rfl, rfl⟩⟩
theorem zero27 : ZeroT Tryd.prog 27 [.slice none 0 0] := ⟨⟨_, Tryd.zeroValue27, rfl⟩, rfl⟩
theorem agg32 : AggT Tryd.prog 32 3 := ⟨Tryd.isAgg32, Tryd.sizeOf32⟩
theorem fv32_0 : FieldV Tryd.prog 32 0 0 3 := ⟨⟨_, _, Tryd.underlying32, rfl, rfl, rfl⟩⟩
theorem f32_0 : FieldT Tryd.prog 32 0 0 := ⟨⟨_, _, 0, Tryd.underlying32, rfl, rfl, Tryd.sizeOf3⟩⟩
theorem fv32_1 : FieldV Tryd.prog 32 1 1 3 := ⟨⟨_, _, Tryd.underlying32, rfl, rfl, rfl⟩⟩
theorem f32_1 : FieldT Tryd.prog 32 1 1 := ⟨⟨_, _, 0, Tryd.underlying32, rfl, rfl, Tryd.sizeOf3⟩⟩
theorem fv32_2 : FieldV Tryd.prog 32 2 2 3 := ⟨⟨_, _, Tryd.underlying32, rfl, rfl, rfl⟩⟩
theorem f32_2 : FieldT Tryd.prog 32 2 2 := ⟨⟨_, _, 0, Tryd.underlying32, rfl, rfl, Tryd.sizeOf3⟩⟩
theorem pl32 : PlacesT Tryd.prog 32 [(0, 1), (1, 1), (2, 1)] := ⟨⟨_, Tryd.underlying32, fun w => by kernel_rfl⟩⟩
theorem eq32 : EqT Tryd.prog 32 3 := ⟨Tryd.eqGuardType32, by
  intro w xs ys h1 h2
  match xs, ys, h1, h2 with
  | [a0, a1, a2], [b0, b1, b2], _, _ =>
    simp only [List.map_cons, List.map_nil]
    go_simp
    repeat' split
    all_goals simp_all⟩
theorem zero32 : ZeroT Tryd.prog 32 [.int .i64 0, .int .i64 0, .int .i64 0] := ⟨⟨_, Tryd.zeroValue32, rfl⟩, rfl⟩
theorem agg33 : AggT Tryd.prog 33 3 := ⟨Tryd.isAgg33, Tryd.sizeOf33⟩
theorem fv33_0 : FieldV Tryd.prog 33 0 0 3 := ⟨⟨_, _, Tryd.underlying33, rfl, rfl, rfl⟩⟩
theorem f33_0 : FieldT Tryd.prog 33 0 0 := ⟨⟨_, _, 0, Tryd.underlying33, rfl, rfl, Tryd.sizeOf3⟩⟩
theorem fv33_1 : FieldV Tryd.prog 33 1 1 3 := ⟨⟨_, _, Tryd.underlying33, rfl, rfl, rfl⟩⟩
theorem f33_1 : FieldT Tryd.prog 33 1 1 := ⟨⟨_, _, 0, Tryd.underlying33, rfl, rfl, Tryd.sizeOf3⟩⟩
theorem fv33_2 : FieldV Tryd.prog 33 2 2 3 := ⟨⟨_, _, Tryd.underlying33, rfl, rfl, rfl⟩⟩
theorem f33_2 : FieldT Tryd.prog 33 2 2 := ⟨⟨_, _, 0, Tryd.underlying33, rfl, rfl, Tryd.sizeOf3⟩⟩
theorem pl33 : PlacesT Tryd.prog 33 [(0, 1), (1, 1), (2, 1)] := ⟨⟨_, Tryd.underlying33, fun w => by kernel_rfl⟩⟩
theorem eq33 : EqT Tryd.prog 33 3 := ⟨Tryd.eqGuardType33, by
  intro w xs ys h1 h2
  match xs, ys, h1, h2 with
  | [a0, a1, a2], [b0, b1, b2], _, _ =>
    simp only [List.map_cons, List.map_nil]
    go_simp
    repeat' split
    all_goals simp_all⟩
theorem zero33 : ZeroT Tryd.prog 33 [.int .i64 0, .int .i64 0, .int .i64 0] := ⟨⟨_, Tryd.zeroValue33, rfl⟩, rfl⟩
theorem one35 : OneT Tryd.prog 35 := ⟨Tryd.isAgg35, Tryd.sizeOf35⟩
theorem sl35 : SliceT Tryd.prog 35 3 1 := ⟨Tryd.underlying35, Tryd.sizeOf3⟩
theorem app35 : AppT Tryd.prog 35 3 1 8 := ⟨by decide, Tryd.underlying35, Tryd.sizeOf3, ⟨Tryd.t3, _, by kernel_rfl, rfl, rfl, rfl, rfl⟩⟩
theorem zero35 : ZeroT Tryd.prog 35 [.slice none 0 0] := ⟨⟨_, Tryd.zeroValue35, rfl⟩, rfl⟩
theorem one39 : OneT Tryd.prog 39 := ⟨Tryd.isAgg39, Tryd.sizeOf39⟩
theorem sl39 : SliceT Tryd.prog 39 46 2 := ⟨Tryd.underlying39, Tryd.sizeOf46⟩
theorem app39 : AppT Tryd.prog 39 46 2 16 := ⟨by decide, Tryd.underlying39, Tryd.sizeOf46, ⟨Tryd.t46, _, by kernel_rfl, rfl, rfl, rfl, rfl⟩⟩
theorem zero39 : ZeroT Tryd.prog 39 [.slice none 0 0] := ⟨⟨_, Tryd.zeroValue39, rfl⟩, rfl⟩
theorem one42 : OneT Tryd.prog 42 := ⟨Tryd.isAgg42, Tryd.sizeOf42⟩
theorem sl42 : SliceT Tryd.prog 42 47 2 := ⟨Tryd.underlying42, Tryd.sizeOf47⟩
theorem app42 : AppT Tryd.prog 42 47 2 16 := ⟨by decide, Tryd.underlying42, Tryd.sizeOf47, ⟨Tryd.t47, _, by kernel_rfl, rfl, rfl, rfl, rfl⟩⟩
theorem zero42 : ZeroT Tryd.prog 42 [.slice none 0 0] := ⟨⟨_, Tryd.zeroValue42, rfl⟩, rfl⟩
theorem agg46 : AggT Tryd.prog 46 2 := ⟨Tryd.isAgg46, Tryd.sizeOf46⟩
theorem fv46_0 : FieldV Tryd.prog 46 0 0 3 := ⟨⟨_, _, Tryd.underlying46, rfl, rfl, rfl⟩⟩
theorem f46_0 : FieldT Tryd.prog 46 0 0 := ⟨⟨_, _, 0, Tryd.underlying46, rfl, rfl, Tryd.sizeOf3⟩⟩
theorem fv46_1 : FieldV Tryd.prog 46 1 1 3 := ⟨⟨_, _, Tryd.underlying46, rfl, rfl, rfl⟩⟩
theorem f46_1 : FieldT Tryd.prog 46 1 1 := ⟨⟨_, _, 0, Tryd.underlying46, rfl, rfl, Tryd.sizeOf3⟩⟩
theorem pl46 : PlacesT Tryd.prog 46 [(0, 1), (1, 1)] := ⟨⟨_, Tryd.underlying46, fun w => by kernel_rfl⟩⟩
theorem eq46 : EqT Tryd.prog 46 2 := ⟨Tryd.eqGuardType46, by
  intro w xs ys h1 h2
  match xs, ys, h1, h2 with
  | [a0, a1], [b0, b1], _, _ =>
    simp only [List.map_cons, List.map_nil]
    go_simp
    repeat' split
    all_goals simp_all⟩
theorem zero46 : ZeroT Tryd.prog 46 [.int .i64 0, .int .i64 0] := ⟨⟨_, Tryd.zeroValue46, rfl⟩, rfl⟩
theorem agg47 : AggT Tryd.prog 47 2 := ⟨Tryd.isAgg47, Tryd.sizeOf47⟩
theorem fv47_0 : FieldV Tryd.prog 47 0 0 3 := ⟨⟨_, _, Tryd.underlying47, rfl, rfl, rfl⟩⟩
theorem f47_0 : FieldT Tryd.prog 47 0 0 := ⟨⟨_, _, 0, Tryd.underlying47, rfl, rfl, Tryd.sizeOf3⟩⟩
theorem fv47_1 : FieldV Tryd.prog 47 1 1 3 := ⟨⟨_, _, Tryd.underlying47, rfl, rfl, rfl⟩⟩
theorem f47_1 : FieldT Tryd.prog 47 1 1 := ⟨⟨_, _, 0, Tryd.underlying47, rfl, rfl, Tryd.sizeOf3⟩⟩
theorem pl47 : PlacesT Tryd.prog 47 [(0, 1), (1, 1)] := ⟨⟨_, Tryd.underlying47, fun w => by kernel_rfl⟩⟩
theorem eq47 : EqT Tryd.prog 47 2 := ⟨Tryd.eqGuardType47, by
  intro w xs ys h1 h2
  match xs, ys, h1, h2 with
  | [a0, a1], [b0, b1], _, _ =>
    simp only [List.map_cons, List.map_nil]
    go_simp
    repeat' split
    all_goals simp_all⟩
theorem zero47 : ZeroT Tryd.prog 47 [.int .i64 0, .int .i64 0] := ⟨⟨_, Tryd.zeroValue47, rfl⟩, rfl⟩
theorem one51 : OneT Tryd.prog 51 := ⟨Tryd.isAgg51, Tryd.sizeOf51⟩
theorem one52 : OneT Tryd.prog 52 := ⟨Tryd.isAgg52, Tryd.sizeOf52⟩
theorem sl52 : SliceT Tryd.prog 52 9 1 := ⟨Tryd.underlying52, Tryd.sizeOf9⟩
theorem app52 : AppT Tryd.prog 52 9 1 16 := ⟨by decide, Tryd.underlying52, Tryd.sizeOf9, ⟨Tryd.t9, _, by kernel_rfl, rfl, rfl, rfl, rfl⟩⟩
theorem zero52 : ZeroT Tryd.prog 52 [.slice none 0 0] := ⟨⟨_, Tryd.zeroValue52, rfl⟩, rfl⟩
theorem one62 : OneT Tryd.prog 62 := ⟨Tryd.isAgg62, Tryd.sizeOf62⟩
theorem sl62 : SliceT Tryd.prog 62 77 3 := ⟨Tryd.underlying62, Tryd.sizeOf77⟩
theorem app62 : AppT Tryd.prog 62 77 3 24 := ⟨by decide, Tryd.underlying62, Tryd.sizeOf77, ⟨Tryd.t77, _, by kernel_rfl, rfl, rfl, rfl, rfl⟩⟩
theorem zero62 : ZeroT Tryd.prog 62 [.slice none 0 0] := ⟨⟨_, Tryd.zeroValue62, rfl⟩, rfl⟩
theorem one67 : OneT Tryd.prog 67 := ⟨Tryd.isAgg67, Tryd.sizeOf67⟩
theorem one72 : OneT Tryd.prog 72 := ⟨Tryd.isAgg72, Tryd.sizeOf72⟩
theorem sl72 : SliceT Tryd.prog 72 74 1 := ⟨Tryd.underlying72, Tryd.sizeOf74⟩
theorem app72 : AppT Tryd.prog 72 74 1 8 := ⟨by decide, Tryd.underlying72, Tryd.sizeOf74, ⟨Tryd.t74, _, by kernel_rfl, rfl, rfl, rfl, rfl⟩⟩
theorem zero72 : ZeroT Tryd.prog 72 [.slice none 0 0] := ⟨⟨_, Tryd.zeroValue72, rfl⟩, rfl⟩
theorem one74 : OneT Tryd.prog 74 := ⟨Tryd.isAgg74, Tryd.sizeOf74⟩
theorem agg77 : AggT Tryd.prog 77 3 := ⟨Tryd.isAgg77, Tryd.sizeOf77⟩
theorem fv77_0 : FieldV Tryd.prog 77 0 0 3 := ⟨⟨_, _, Tryd.underlying77, rfl, rfl, rfl⟩⟩
theorem f77_0 : FieldT Tryd.prog 77 0 0 := ⟨⟨_, _, 0, Tryd.underlying77, rfl, rfl, Tryd.sizeOf3⟩⟩
theorem fv77_1 : FieldV Tryd.prog 77 1 1 3 := ⟨⟨_, _, Tryd.underlying77, rfl, rfl, rfl⟩⟩
theorem f77_1 : FieldT Tryd.prog 77 1 1 := ⟨⟨_, _, 0, Tryd.underlying77, rfl, rfl, Tryd.sizeOf3⟩⟩
theorem fv77_2 : FieldV Tryd.prog 77 2 2 3 := ⟨⟨_, _, Tryd.underlying77, rfl, rfl, rfl⟩⟩
theorem f77_2 : FieldT Tryd.prog 77 2 2 := ⟨⟨_, _, 0, Tryd.underlying77, rfl, rfl, Tryd.sizeOf3⟩⟩
theorem pl77 : PlacesT Tryd.prog 77 [(0, 1), (1, 1), (2, 1)] := ⟨⟨_, Tryd.underlying77, fun w => by kernel_rfl⟩⟩
theorem eq77 : EqT Tryd.prog 77 3 := ⟨Tryd.eqGuardType77, by
  intro w xs ys h1 h2
  match xs, ys, h1, h2 with
  | [a0, a1, a2], [b0, b1, b2], _, _ =>
    simp only [List.map_cons, List.map_nil]
    go_simp
    repeat' split
    all_goals simp_all⟩
theorem zero77 : ZeroT Tryd.prog 77 [.int .i64 0, .int .i64 0, .int .i64 0] := ⟨⟨_, Tryd.zeroValue77, rfl⟩, rfl⟩
theorem one80 : OneT Tryd.prog 80 := ⟨Tryd.isAgg80, Tryd.sizeOf80⟩
theorem sl80 : SliceT Tryd.prog 80 83 3 := ⟨Tryd.underlying80, Tryd.sizeOf83⟩
theorem app80 : AppT Tryd.prog 80 83 3 24 := ⟨by decide, Tryd.underlying80, Tryd.sizeOf83, ⟨Tryd.t83, _, by kernel_rfl, rfl, rfl, rfl, rfl⟩⟩
theorem zero80 : ZeroT Tryd.prog 80 [.slice none 0 0] := ⟨⟨_, Tryd.zeroValue80, rfl⟩, rfl⟩
theorem agg83 : AggT Tryd.prog 83 3 := ⟨Tryd.isAgg83, Tryd.sizeOf83⟩
theorem fv83_0 : FieldV Tryd.prog 83 0 0 3 := ⟨⟨_, _, Tryd.underlying83, rfl, rfl, rfl⟩⟩
theorem f83_0 : FieldT Tryd.prog 83 0 0 := ⟨⟨_, _, 0, Tryd.underlying83, rfl, rfl, Tryd.sizeOf3⟩⟩
theorem fv83_1 : FieldV Tryd.prog 83 1 1 3 := ⟨⟨_, _, Tryd.underlying83, rfl, rfl, rfl⟩⟩
theorem f83_1 : FieldT Tryd.prog 83 1 1 := ⟨⟨_, _, 0, Tryd.underlying83, rfl, rfl, Tryd.sizeOf3⟩⟩
theorem fv83_2 : FieldV Tryd.prog 83 2 2 3 := ⟨⟨_, _, Tryd.underlying83, rfl, rfl, rfl⟩⟩
theorem f83_2 : FieldT Tryd.prog 83 2 2 := ⟨⟨_, _, 0, Tryd.underlying83, rfl, rfl, Tryd.sizeOf3⟩⟩
theorem pl83 : PlacesT Tryd.prog 83 [(0, 1), (1, 1), (2, 1)] := ⟨⟨_, Tryd.underlying83, fun w => by kernel_rfl⟩⟩
theorem eq83 : EqT Tryd.prog 83 3 := ⟨Tryd.eqGuardType83, by
  intro w xs ys h1 h2
  match xs, ys, h1, h2 with
  | [a0, a1, a2], [b0, b1, b2], _, _ =>
    simp only [List.map_cons, List.map_nil]
    go_simp
    repeat' split
    all_goals simp_all⟩
theorem zero83 : ZeroT Tryd.prog 83 [.int .i64 0, .int .i64 0, .int .i64 0] := ⟨⟨_, Tryd.zeroValue83, rfl⟩, rfl⟩
theorem one85 : OneT Tryd.prog 85 := ⟨Tryd.isAgg85, Tryd.sizeOf85⟩
theorem sl85 : SliceT Tryd.prog 85 105 3 := ⟨Tryd.underlying85, Tryd.sizeOf105⟩
theorem app85 : AppT Tryd.prog 85 105 3 24 := ⟨by decide, Tryd.underlying85, Tryd.sizeOf105, ⟨Tryd.t105, _, by kernel_rfl, rfl, rfl, rfl, rfl⟩⟩
theorem zero85 : ZeroT Tryd.prog 85 [.slice none 0 0] := ⟨⟨_, Tryd.zeroValue85, rfl⟩, rfl⟩
theorem one88 : OneT Tryd.prog 88 := ⟨Tryd.isAgg88, Tryd.sizeOf88⟩
theorem one93 : OneT Tryd.prog 93 := ⟨Tryd.isAgg93, Tryd.sizeOf93⟩
theorem one99 : OneT Tryd.prog 99 := ⟨Tryd.isAgg99, Tryd.sizeOf99⟩
theorem agg105 : AggT Tryd.prog 105 3 := ⟨Tryd.isAgg105, Tryd.sizeOf105⟩
theorem fv105_0 : FieldV Tryd.prog 105 0 0 3 := ⟨⟨_, _, Tryd.underlying105, rfl, rfl, rfl⟩⟩
theorem f105_0 : FieldT Tryd.prog 105 0 0 := ⟨⟨_, _, 0, Tryd.underlying105, rfl, rfl, Tryd.sizeOf3⟩⟩
theorem fv105_1 : FieldV Tryd.prog 105 1 1 3 := ⟨⟨_, _, Tryd.underlying105, rfl, rfl, rfl⟩⟩
theorem f105_1 : FieldT Tryd.prog 105 1 1 := ⟨⟨_, _, 0, Tryd.underlying105, rfl, rfl, Tryd.sizeOf3⟩⟩
theorem fv105_2 : FieldV Tryd.prog 105 2 2 3 := ⟨⟨_, _, Tryd.underlying105, rfl, rfl, rfl⟩⟩
theorem f105_2 : FieldT Tryd.prog 105 2 2 := ⟨⟨_, _, 0, Tryd.underlying105, rfl, rfl, Tryd.sizeOf3⟩⟩
theorem pl105 : PlacesT Tryd.prog 105 [(0, 1), (1, 1), (2, 1)] := ⟨⟨_, Tryd.underlying105, fun w => by kernel_rfl⟩⟩
theorem eq105 : EqT Tryd.prog 105 3 := ⟨Tryd.eqGuardType105, by
  intro w xs ys h1 h2
  match xs, ys, h1, h2 with
  | [a0, a1, a2], [b0, b1, b2], _, _ =>
    simp only [List.map_cons, List.map_nil]
    go_simp
    repeat' split
    all_goals simp_all⟩
theorem zero105 : ZeroT Tryd.prog 105 [.int .i64 0, .int .i64 0, .int .i64 0] := ⟨⟨_, Tryd.zeroValue105, rfl⟩, rfl⟩
theorem one106 : OneT Tryd.prog 106 := ⟨Tryd.isAgg106, Tryd.sizeOf106⟩
theorem one107 : OneT Tryd.prog 107 := ⟨Tryd.isAgg107, Tryd.sizeOf107⟩
theorem sl107 : SliceT Tryd.prog 107 21 1 := ⟨Tryd.underlying107, Tryd.sizeOf21⟩
theorem app107 : AppT Tryd.prog 107 21 1 4 := ⟨by decide, Tryd.underlying107, Tryd.sizeOf21, ⟨Tryd.t21, _, by kernel_rfl, rfl, rfl, rfl, rfl⟩⟩
theorem zero107 : ZeroT Tryd.prog 107 [.slice none 0 0] := ⟨⟨_, Tryd.zeroValue107, rfl⟩, rfl⟩
theorem one113 : OneT Tryd.prog 113 := ⟨Tryd.isAgg113, Tryd.sizeOf113⟩
theorem agg115 : AggT Tryd.prog 115 2 := ⟨Tryd.isAgg115, Tryd.sizeOf115⟩
theorem pa115 : ArrT Tryd.prog 115 2 3 1 := ⟨Tryd.underlying115, Tryd.sizeOf3⟩
theorem zero115 : ZeroT Tryd.prog 115 [.int .i64 0, .int .i64 0] := ⟨⟨_, Tryd.zeroValue115, rfl⟩, rfl⟩
theorem one117 : OneT Tryd.prog 117 := ⟨Tryd.isAgg117, Tryd.sizeOf117⟩
theorem sl117 : SliceT Tryd.prog 117 136 3 := ⟨Tryd.underlying117, Tryd.sizeOf136⟩
theorem app117 : AppT Tryd.prog 117 136 3 24 := ⟨by decide, Tryd.underlying117, Tryd.sizeOf136, ⟨Tryd.t136, _, by kernel_rfl, rfl, rfl, rfl, rfl⟩⟩
theorem zero117 : ZeroT Tryd.prog 117 [.slice none 0 0] := ⟨⟨_, Tryd.zeroValue117, rfl⟩, rfl⟩
theorem one119 : OneT Tryd.prog 119 := ⟨Tryd.isAgg119, Tryd.sizeOf119⟩
theorem zero119 : ZeroT Tryd.prog 119 [.int .u64 0] := ⟨⟨_, Tryd.zeroValue119, rfl⟩, rfl⟩
theorem one120 : OneT Tryd.prog 120 := ⟨Tryd.isAgg120, Tryd.sizeOf120⟩
theorem sl120 : SliceT Tryd.prog 120 5 1 := ⟨Tryd.underlying120, Tryd.sizeOf5⟩
theorem app120 : AppT Tryd.prog 120 5 1 1 := ⟨by decide, Tryd.underlying120, Tryd.sizeOf5, ⟨Tryd.t5, _, by kernel_rfl, rfl, rfl, rfl, rfl⟩⟩
theorem zero120 : ZeroT Tryd.prog 120 [.slice none 0 0] := ⟨⟨_, Tryd.zeroValue120, rfl⟩, rfl⟩
theorem agg124 : AggT Tryd.prog 124 256 := ⟨Tryd.isAgg124, Tryd.sizeOf124⟩
theorem pa124 : ArrT Tryd.prog 124 256 5 1 := ⟨Tryd.underlying124, Tryd.sizeOf5⟩
theorem agg126 : AggT Tryd.prog 126 2 := ⟨Tryd.isAgg126, Tryd.sizeOf126⟩
theorem fv126_0 : FieldV Tryd.prog 126 0 0 5 := ⟨⟨_, _, Tryd.underlying126, rfl, rfl, rfl⟩⟩
theorem f126_0 : FieldT Tryd.prog 126 0 0 := ⟨⟨_, _, 0, Tryd.underlying126, rfl, rfl, Tryd.sizeOf5⟩⟩
theorem fv126_1 : FieldV Tryd.prog 126 1 1 5 := ⟨⟨_, _, Tryd.underlying126, rfl, rfl, rfl⟩⟩
theorem f126_1 : FieldT Tryd.prog 126 1 1 := ⟨⟨_, _, 0, Tryd.underlying126, rfl, rfl, Tryd.sizeOf5⟩⟩
theorem pl126 : PlacesT Tryd.prog 126 [(0, 1), (1, 1)] := ⟨⟨_, Tryd.underlying126, fun w => by kernel_rfl⟩⟩
theorem zero126 : ZeroT Tryd.prog 126 [.int .u8 0, .int .u8 0] := ⟨⟨_, Tryd.zeroValue126, rfl⟩, rfl⟩
theorem agg127 : AggT Tryd.prog 127 32 := ⟨Tryd.isAgg127, Tryd.sizeOf127⟩
theorem pa127 : ArrT Tryd.prog 127 16 126 2 := ⟨Tryd.underlying127, Tryd.sizeOf126⟩
theorem zero127 : ZeroT Tryd.prog 127 [.int .u8 0, .int .u8 0, .int .u8 0, .int .u8 0, .int .u8 0, .int .u8 0, .int .u8 0, .int .u8 0, .int .u8 0, .int .u8 0, .int .u8 0, .int .u8 0, .int .u8 0, .int .u8 0, .int .u8 0, .int .u8 0, .int .u8 0, .int .u8 0, .int .u8 0, .int .u8 0, .int .u8 0, .int .u8 0, .int .u8 0, .int .u8 0, .int .u8 0, .int .u8 0, .int .u8 0, .int .u8 0, .int .u8 0, .int .u8 0, .int .u8 0, .int .u8 0] := ⟨⟨_, Tryd.zeroValue127, rfl⟩, rfl⟩
theorem one128 : OneT Tryd.prog 128 := ⟨Tryd.isAgg128, Tryd.sizeOf128⟩
theorem one129 : OneT Tryd.prog 129 := ⟨Tryd.isAgg129, Tryd.sizeOf129⟩
theorem sl129 : SliceT Tryd.prog 129 139 3 := ⟨Tryd.underlying129, Tryd.sizeOf139⟩
theorem app129 : AppT Tryd.prog 129 139 3 24 := ⟨by decide, Tryd.underlying129, Tryd.sizeOf139, ⟨Tryd.t139, _, by kernel_rfl, rfl, rfl, rfl, rfl⟩⟩
theorem zero129 : ZeroT Tryd.prog 129 [.slice none 0 0] := ⟨⟨_, Tryd.zeroValue129, rfl⟩, rfl⟩
theorem agg132 : AggT Tryd.prog 132 4 := ⟨Tryd.isAgg132, Tryd.sizeOf132⟩
theorem fv132_0 : FieldV Tryd.prog 132 0 0 3 := ⟨⟨_, _, Tryd.underlying132, rfl, rfl, rfl⟩⟩
theorem f132_0 : FieldT Tryd.prog 132 0 0 := ⟨⟨_, _, 0, Tryd.underlying132, rfl, rfl, Tryd.sizeOf3⟩⟩
theorem fv132_1 : FieldV Tryd.prog 132 1 1 4 := ⟨⟨_, _, Tryd.underlying132, rfl, rfl, rfl⟩⟩
theorem f132_1 : FieldT Tryd.prog 132 1 1 := ⟨⟨_, _, 0, Tryd.underlying132, rfl, rfl, Tryd.sizeOf4⟩⟩
theorem fv132_2 : FieldV Tryd.prog 132 2 2 4 := ⟨⟨_, _, Tryd.underlying132, rfl, rfl, rfl⟩⟩
theorem f132_2 : FieldT Tryd.prog 132 2 2 := ⟨⟨_, _, 0, Tryd.underlying132, rfl, rfl, Tryd.sizeOf4⟩⟩
theorem fv132_3 : FieldV Tryd.prog 132 3 3 3 := ⟨⟨_, _, Tryd.underlying132, rfl, rfl, rfl⟩⟩
theorem f132_3 : FieldT Tryd.prog 132 3 3 := ⟨⟨_, _, 0, Tryd.underlying132, rfl, rfl, Tryd.sizeOf3⟩⟩
theorem pl132 : PlacesT Tryd.prog 132 [(0, 1), (1, 1), (2, 1), (3, 1)] := ⟨⟨_, Tryd.underlying132, fun w => by kernel_rfl⟩⟩
theorem eqm132 : EqM Tryd.prog 132 [true, false, false, true] := ⟨Tryd.eqGuardType132, by
  intro w xs ys h1 h2
  match xs, ys, h1, h2 with
  | [.i a0, .b a1, .b a2, .i a3], [.i b0, .b b1, .b b2, .i b3], _, _ =>
    simp only [List.map_cons, List.map_nil, MV.v]
    go_simp
    repeat' split
    all_goals simp_all⟩
theorem zero132 : ZeroT Tryd.prog 132 [.int .i64 0, .bool false, .bool false, .int .i64 0] := ⟨⟨_, Tryd.zeroValue132, rfl⟩, rfl⟩
theorem agg136 : AggT Tryd.prog 136 3 := ⟨Tryd.isAgg136, Tryd.sizeOf136⟩
theorem fv136_0 : FieldV Tryd.prog 136 0 0 3 := ⟨⟨_, _, Tryd.underlying136, rfl, rfl, rfl⟩⟩
theorem f136_0 : FieldT Tryd.prog 136 0 0 := ⟨⟨_, _, 0, Tryd.underlying136, rfl, rfl, Tryd.sizeOf3⟩⟩
theorem fv136_1 : FieldV Tryd.prog 136 1 1 3 := ⟨⟨_, _, Tryd.underlying136, rfl, rfl, rfl⟩⟩
theorem f136_1 : FieldT Tryd.prog 136 1 1 := ⟨⟨_, _, 0, Tryd.underlying136, rfl, rfl, Tryd.sizeOf3⟩⟩
theorem fv136_2 : FieldV Tryd.prog 136 2 2 3 := ⟨⟨_, _, Tryd.underlying136, rfl, rfl, rfl⟩⟩
theorem f136_2 : FieldT Tryd.prog 136 2 2 := ⟨⟨_, _, 0, Tryd.underlying136, rfl, rfl, Tryd.sizeOf3⟩⟩
theorem pl136 : PlacesT Tryd.prog 136 [(0, 1), (1, 1), (2, 1)] := ⟨⟨_, Tryd.underlying136, fun w => by kernel_rfl⟩⟩
theorem eq136 : EqT Tryd.prog 136 3 := ⟨Tryd.eqGuardType136, by
  intro w xs ys h1 h2
  match xs, ys, h1, h2 with
  | [a0, a1, a2], [b0, b1, b2], _, _ =>
    simp only [List.map_cons, List.map_nil]
    go_simp
    repeat' split
    all_goals simp_all⟩
theorem zero136 : ZeroT Tryd.prog 136 [.int .i64 0, .int .i64 0, .int .i64 0] := ⟨⟨_, Tryd.zeroValue136, rfl⟩, rfl⟩
theorem one137 : OneT Tryd.prog 137 := ⟨Tryd.isAgg137, Tryd.sizeOf137⟩
theorem zero137 : ZeroT Tryd.prog 137 [.int .u64 0] := ⟨⟨_, Tryd.zeroValue137, rfl⟩, rfl⟩
theorem agg139 : AggT Tryd.prog 139 3 := ⟨Tryd.isAgg139, Tryd.sizeOf139⟩
theorem fv139_0 : FieldV Tryd.prog 139 0 0 3 := ⟨⟨_, _, Tryd.underlying139, rfl, rfl, rfl⟩⟩
theorem f139_0 : FieldT Tryd.prog 139 0 0 := ⟨⟨_, _, 0, Tryd.underlying139, rfl, rfl, Tryd.sizeOf3⟩⟩
theorem fv139_1 : FieldV Tryd.prog 139 1 1 3 := ⟨⟨_, _, Tryd.underlying139, rfl, rfl, rfl⟩⟩
theorem f139_1 : FieldT Tryd.prog 139 1 1 := ⟨⟨_, _, 0, Tryd.underlying139, rfl, rfl, Tryd.sizeOf3⟩⟩
theorem fv139_2 : FieldV Tryd.prog 139 2 2 3 := ⟨⟨_, _, Tryd.underlying139, rfl, rfl, rfl⟩⟩
theorem f139_2 : FieldT Tryd.prog 139 2 2 := ⟨⟨_, _, 0, Tryd.underlying139, rfl, rfl, Tryd.sizeOf3⟩⟩
theorem pl139 : PlacesT Tryd.prog 139 [(0, 1), (1, 1), (2, 1)] := ⟨⟨_, Tryd.underlying139, fun w => by kernel_rfl⟩⟩
theorem eq139 : EqT Tryd.prog 139 3 := ⟨Tryd.eqGuardType139, by
  intro w xs ys h1 h2
  match xs, ys, h1, h2 with
  | [a0, a1, a2], [b0, b1, b2], _, _ =>
    simp only [List.map_cons, List.map_nil]
    go_simp
    repeat' split
    all_goals simp_all⟩
theorem zero139 : ZeroT Tryd.prog 139 [.int .i64 0, .int .i64 0, .int .i64 0] := ⟨⟨_, Tryd.zeroValue139, rfl⟩, rfl⟩
theorem one141 : OneT Tryd.prog 141 := ⟨Tryd.isAgg141, Tryd.sizeOf141⟩
theorem zero141 : ZeroT Tryd.prog 141 [.pointer none] := ⟨⟨_, Tryd.zeroValue141, rfl⟩, rfl⟩
end Ty
end Go.Ob

