/- The closed facts on the types of this translation; written by a program (gen.py). -/
import Derived.Test.YtkedjbommcfhiaaDoorChecked
import Derived.Test.YtkedjbommcfhiaaDoorObT
set_option linter.unusedVariables false
set_option linter.unusedSimpArgs false
namespace Go.Ob
open Go.Proofs
namespace Ty
theorem follows : Tryd.prog.follows .mixedOrders = true := by kernel_rfl
theorem one3 : OneT Tryd.prog 3 := ⟨Tryd.isAgg3, Tryd.sizeOf3⟩
theorem zero3 : ZeroT Tryd.prog 3 [.int .i64 0] := ⟨⟨_, Tryd.zeroValue3, rfl⟩, rfl⟩
theorem one4 : OneT Tryd.prog 4 := ⟨Tryd.isAgg4, Tryd.sizeOf4⟩
theorem zero4 : ZeroT Tryd.prog 4 [.bool false] := ⟨⟨_, Tryd.zeroValue4, rfl⟩, rfl⟩
theorem one5 : OneT Tryd.prog 5 := ⟨Tryd.isAgg5, Tryd.sizeOf5⟩
theorem zero5 : ZeroT Tryd.prog 5 [.int .u8 0] := ⟨⟨_, Tryd.zeroValue5, rfl⟩, rfl⟩
theorem one9 : OneT Tryd.prog 9 := ⟨Tryd.isAgg9, Tryd.sizeOf9⟩
theorem zero9 : ZeroT Tryd.prog 9 [.string ⟨#[]⟩] := ⟨⟨_, Tryd.zeroValue9, rfl⟩, rfl⟩
theorem one12 : OneT Tryd.prog 12 := ⟨Tryd.isAgg12, Tryd.sizeOf12⟩
theorem zero12 : ZeroT Tryd.prog 12 [.int .u64 0] := ⟨⟨_, Tryd.zeroValue12, rfl⟩, rfl⟩
theorem one21 : OneT Tryd.prog 21 := ⟨Tryd.isAgg21, Tryd.sizeOf21⟩
theorem zero21 : ZeroT Tryd.prog 21 [.int .i32 0] := ⟨⟨_, Tryd.zeroValue21, rfl⟩, rfl⟩
theorem one24 : OneT Tryd.prog 24 := ⟨Tryd.isAgg24, Tryd.sizeOf24⟩
theorem one26 : OneT Tryd.prog 26 := ⟨Tryd.isAgg26, Tryd.sizeOf26⟩
theorem sl26 : SliceT Tryd.prog 26 3 1 := ⟨Tryd.underlying26, Tryd.sizeOf3⟩
theorem app26 : AppT Tryd.prog 26 3 1 8 := ⟨by decide, Tryd.underlying26, Tryd.sizeOf3, ⟨Tryd.t3, _, by kernel_rfl, rfl, rfl, rfl, rfl⟩⟩
theorem zero26 : ZeroT Tryd.prog 26 [.slice none 0 0] := ⟨⟨_, Tryd.zeroValue26, rfl⟩, rfl⟩
theorem one27 : OneT Tryd.prog 27 := ⟨Tryd.isAgg27, Tryd.sizeOf27⟩
theorem zero27 : ZeroT Tryd.prog 27 [.int .i64 0] := ⟨⟨_, Tryd.zeroValue27, rfl⟩, rfl⟩
theorem one35 : OneT Tryd.prog 35 := ⟨Tryd.isAgg35, Tryd.sizeOf35⟩
theorem sl35 : SliceT Tryd.prog 35 9 1 := ⟨Tryd.underlying35, Tryd.sizeOf9⟩
theorem app35 : AppT Tryd.prog 35 9 1 16 := ⟨by decide, Tryd.underlying35, Tryd.sizeOf9, ⟨Tryd.t9, _, by kernel_rfl, rfl, rfl, rfl, rfl⟩⟩
theorem zero35 : ZeroT Tryd.prog 35 [.slice none 0 0] := ⟨⟨_, Tryd.zeroValue35, rfl⟩, rfl⟩
theorem one41 : OneT Tryd.prog 41 := ⟨Tryd.isAgg41, Tryd.sizeOf41⟩
theorem zero41 : ZeroT Tryd.prog 41 [.int .u16 0] := ⟨⟨_, Tryd.zeroValue41, rfl⟩, rfl⟩
theorem one45 : OneT Tryd.prog 45 := ⟨Tryd.isAgg45, Tryd.sizeOf45⟩
theorem sl45 : SliceT Tryd.prog 45 5 1 := ⟨Tryd.underlying45, Tryd.sizeOf5⟩
theorem app45 : AppT Tryd.prog 45 5 1 1 := ⟨by decide, Tryd.underlying45, Tryd.sizeOf5, ⟨Tryd.t5, _, by kernel_rfl, rfl, rfl, rfl, rfl⟩⟩
theorem zero45 : ZeroT Tryd.prog 45 [.slice none 0 0] := ⟨⟨_, Tryd.zeroValue45, rfl⟩, rfl⟩
theorem one55 : OneT Tryd.prog 55 := ⟨Tryd.isAgg55, Tryd.sizeOf55⟩
theorem sl55 : SliceT Tryd.prog 55 72 3 := ⟨Tryd.underlying55, Tryd.sizeOf72⟩
theorem app55 : AppT Tryd.prog 55 72 3 24 := ⟨by decide, Tryd.underlying55, Tryd.sizeOf72, ⟨Tryd.t72, _, by kernel_rfl, rfl, rfl, rfl, rfl⟩⟩
theorem zero55 : ZeroT Tryd.prog 55 [.slice none 0 0] := ⟨⟨_, Tryd.zeroValue55, rfl⟩, rfl⟩
theorem one58 : OneT Tryd.prog 58 := ⟨Tryd.isAgg58, Tryd.sizeOf58⟩
theorem sl58 : SliceT Tryd.prog 58 74 3 := ⟨Tryd.underlying58, Tryd.sizeOf74⟩
theorem app58 : AppT Tryd.prog 58 74 3 24 := ⟨by decide, Tryd.underlying58, Tryd.sizeOf74, ⟨Tryd.t74, _, by kernel_rfl, rfl, rfl, rfl, rfl⟩⟩
theorem zero58 : ZeroT Tryd.prog 58 [.slice none 0 0] := ⟨⟨_, Tryd.zeroValue58, rfl⟩, rfl⟩
theorem one61 : OneT Tryd.prog 61 := ⟨Tryd.isAgg61, Tryd.sizeOf61⟩
theorem agg63 : AggT Tryd.prog 63 2 := ⟨Tryd.isAgg63, Tryd.sizeOf63⟩
theorem pa63 : ArrT Tryd.prog 63 2 3 1 := ⟨Tryd.underlying63, Tryd.sizeOf3⟩
theorem zero63 : ZeroT Tryd.prog 63 [.int .i64 0, .int .i64 0] := ⟨⟨_, Tryd.zeroValue63, rfl⟩, rfl⟩
theorem agg72 : AggT Tryd.prog 72 3 := ⟨Tryd.isAgg72, Tryd.sizeOf72⟩
theorem fv72_0 : FieldV Tryd.prog 72 0 0 3 := ⟨⟨_, _, Tryd.underlying72, rfl, rfl, rfl⟩⟩
theorem f72_0 : FieldT Tryd.prog 72 0 0 := ⟨⟨_, _, 0, Tryd.underlying72, rfl, rfl, Tryd.sizeOf3⟩⟩
theorem fv72_1 : FieldV Tryd.prog 72 1 1 3 := ⟨⟨_, _, Tryd.underlying72, rfl, rfl, rfl⟩⟩
theorem f72_1 : FieldT Tryd.prog 72 1 1 := ⟨⟨_, _, 0, Tryd.underlying72, rfl, rfl, Tryd.sizeOf3⟩⟩
theorem fv72_2 : FieldV Tryd.prog 72 2 2 3 := ⟨⟨_, _, Tryd.underlying72, rfl, rfl, rfl⟩⟩
theorem f72_2 : FieldT Tryd.prog 72 2 2 := ⟨⟨_, _, 0, Tryd.underlying72, rfl, rfl, Tryd.sizeOf3⟩⟩
theorem pl72 : PlacesT Tryd.prog 72 [(0, 1), (1, 1), (2, 1)] := ⟨⟨_, Tryd.underlying72, fun w => by kernel_rfl⟩⟩
theorem eq72 : EqT Tryd.prog 72 3 := ⟨Tryd.eqGuardType72, by
  intro w xs ys h1 h2
  match xs, ys, h1, h2 with
  | [a0, a1, a2], [b0, b1, b2], _, _ =>
    simp only [List.map_cons, List.map_nil]
    go_simp
    repeat' split
    all_goals simp_all⟩
theorem zero72 : ZeroT Tryd.prog 72 [.int .i64 0, .int .i64 0, .int .i64 0] := ⟨⟨_, Tryd.zeroValue72, rfl⟩, rfl⟩
theorem agg74 : AggT Tryd.prog 74 3 := ⟨Tryd.isAgg74, Tryd.sizeOf74⟩
theorem fv74_0 : FieldV Tryd.prog 74 0 0 3 := ⟨⟨_, _, Tryd.underlying74, rfl, rfl, rfl⟩⟩
theorem f74_0 : FieldT Tryd.prog 74 0 0 := ⟨⟨_, _, 0, Tryd.underlying74, rfl, rfl, Tryd.sizeOf3⟩⟩
theorem fv74_1 : FieldV Tryd.prog 74 1 1 3 := ⟨⟨_, _, Tryd.underlying74, rfl, rfl, rfl⟩⟩
theorem f74_1 : FieldT Tryd.prog 74 1 1 := ⟨⟨_, _, 0, Tryd.underlying74, rfl, rfl, Tryd.sizeOf3⟩⟩
theorem fv74_2 : FieldV Tryd.prog 74 2 2 3 := ⟨⟨_, _, Tryd.underlying74, rfl, rfl, rfl⟩⟩
theorem f74_2 : FieldT Tryd.prog 74 2 2 := ⟨⟨_, _, 0, Tryd.underlying74, rfl, rfl, Tryd.sizeOf3⟩⟩
theorem pl74 : PlacesT Tryd.prog 74 [(0, 1), (1, 1), (2, 1)] := ⟨⟨_, Tryd.underlying74, fun w => by kernel_rfl⟩⟩
theorem eq74 : EqT Tryd.prog 74 3 := ⟨Tryd.eqGuardType74, by
  intro w xs ys h1 h2
  match xs, ys, h1, h2 with
  | [a0, a1, a2], [b0, b1, b2], _, _ =>
    simp only [List.map_cons, List.map_nil]
    go_simp
    repeat' split
    all_goals simp_all⟩
theorem zero74 : ZeroT Tryd.prog 74 [.int .i64 0, .int .i64 0, .int .i64 0] := ⟨⟨_, Tryd.zeroValue74, rfl⟩, rfl⟩
theorem agg76 : AggT Tryd.prog 76 256 := ⟨Tryd.isAgg76, Tryd.sizeOf76⟩
theorem pa76 : ArrT Tryd.prog 76 256 5 1 := ⟨Tryd.underlying76, Tryd.sizeOf5⟩
theorem agg78 : AggT Tryd.prog 78 2 := ⟨Tryd.isAgg78, Tryd.sizeOf78⟩
theorem fv78_0 : FieldV Tryd.prog 78 0 0 5 := ⟨⟨_, _, Tryd.underlying78, rfl, rfl, rfl⟩⟩
theorem f78_0 : FieldT Tryd.prog 78 0 0 := ⟨⟨_, _, 0, Tryd.underlying78, rfl, rfl, Tryd.sizeOf5⟩⟩
theorem fv78_1 : FieldV Tryd.prog 78 1 1 5 := ⟨⟨_, _, Tryd.underlying78, rfl, rfl, rfl⟩⟩
theorem f78_1 : FieldT Tryd.prog 78 1 1 := ⟨⟨_, _, 0, Tryd.underlying78, rfl, rfl, Tryd.sizeOf5⟩⟩
theorem pl78 : PlacesT Tryd.prog 78 [(0, 1), (1, 1)] := ⟨⟨_, Tryd.underlying78, fun w => by kernel_rfl⟩⟩
theorem zero78 : ZeroT Tryd.prog 78 [.int .u8 0, .int .u8 0] := ⟨⟨_, Tryd.zeroValue78, rfl⟩, rfl⟩
theorem agg79 : AggT Tryd.prog 79 32 := ⟨Tryd.isAgg79, Tryd.sizeOf79⟩
theorem pa79 : ArrT Tryd.prog 79 16 78 2 := ⟨Tryd.underlying79, Tryd.sizeOf78⟩
theorem zero79 : ZeroT Tryd.prog 79 [.int .u8 0, .int .u8 0, .int .u8 0, .int .u8 0, .int .u8 0, .int .u8 0, .int .u8 0, .int .u8 0, .int .u8 0, .int .u8 0, .int .u8 0, .int .u8 0, .int .u8 0, .int .u8 0, .int .u8 0, .int .u8 0, .int .u8 0, .int .u8 0, .int .u8 0, .int .u8 0, .int .u8 0, .int .u8 0, .int .u8 0, .int .u8 0, .int .u8 0, .int .u8 0, .int .u8 0, .int .u8 0, .int .u8 0, .int .u8 0, .int .u8 0, .int .u8 0] := ⟨⟨_, Tryd.zeroValue79, rfl⟩, rfl⟩
theorem one80 : OneT Tryd.prog 80 := ⟨Tryd.isAgg80, Tryd.sizeOf80⟩
theorem zero80 : ZeroT Tryd.prog 80 [.int .u64 0] := ⟨⟨_, Tryd.zeroValue80, rfl⟩, rfl⟩
theorem one81 : OneT Tryd.prog 81 := ⟨Tryd.isAgg81, Tryd.sizeOf81⟩
theorem agg83 : AggT Tryd.prog 83 4 := ⟨Tryd.isAgg83, Tryd.sizeOf83⟩
theorem fv83_0 : FieldV Tryd.prog 83 0 0 3 := ⟨⟨_, _, Tryd.underlying83, rfl, rfl, rfl⟩⟩
theorem f83_0 : FieldT Tryd.prog 83 0 0 := ⟨⟨_, _, 0, Tryd.underlying83, rfl, rfl, Tryd.sizeOf3⟩⟩
theorem fv83_1 : FieldV Tryd.prog 83 1 1 4 := ⟨⟨_, _, Tryd.underlying83, rfl, rfl, rfl⟩⟩
theorem f83_1 : FieldT Tryd.prog 83 1 1 := ⟨⟨_, _, 0, Tryd.underlying83, rfl, rfl, Tryd.sizeOf4⟩⟩
theorem fv83_2 : FieldV Tryd.prog 83 2 2 4 := ⟨⟨_, _, Tryd.underlying83, rfl, rfl, rfl⟩⟩
theorem f83_2 : FieldT Tryd.prog 83 2 2 := ⟨⟨_, _, 0, Tryd.underlying83, rfl, rfl, Tryd.sizeOf4⟩⟩
theorem fv83_3 : FieldV Tryd.prog 83 3 3 3 := ⟨⟨_, _, Tryd.underlying83, rfl, rfl, rfl⟩⟩
theorem f83_3 : FieldT Tryd.prog 83 3 3 := ⟨⟨_, _, 0, Tryd.underlying83, rfl, rfl, Tryd.sizeOf3⟩⟩
theorem pl83 : PlacesT Tryd.prog 83 [(0, 1), (1, 1), (2, 1), (3, 1)] := ⟨⟨_, Tryd.underlying83, fun w => by kernel_rfl⟩⟩
theorem eqm83 : EqM Tryd.prog 83 [true, false, false, true] := ⟨Tryd.eqGuardType83, by
  intro w xs ys h1 h2
  match xs, ys, h1, h2 with
  | [.i a0, .b a1, .b a2, .i a3], [.i b0, .b b1, .b b2, .i b3], _, _ =>
    simp only [List.map_cons, List.map_nil, MV.v]
    go_simp
    repeat' split
    all_goals simp_all⟩
theorem zero83 : ZeroT Tryd.prog 83 [.int .i64 0, .bool false, .bool false, .int .i64 0] := ⟨⟨_, Tryd.zeroValue83, rfl⟩, rfl⟩
theorem one86 : OneT Tryd.prog 86 := ⟨Tryd.isAgg86, Tryd.sizeOf86⟩
theorem zero86 : ZeroT Tryd.prog 86 [.int .u64 0] := ⟨⟨_, Tryd.zeroValue86, rfl⟩, rfl⟩
theorem one87 : OneT Tryd.prog 87 := ⟨Tryd.isAgg87, Tryd.sizeOf87⟩
theorem zero87 : ZeroT Tryd.prog 87 [.pointer none] := ⟨⟨_, Tryd.zeroValue87, rfl⟩, rfl⟩
end Ty
end Go.Ob
