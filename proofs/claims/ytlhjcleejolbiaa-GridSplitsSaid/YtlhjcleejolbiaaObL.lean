/- Conversions between kinds of ints, shifts, quotients. -/
import Derived.Test.YtlhjcleejolbiaaObK
set_option linter.unusedVariables false
set_option linter.unusedSimpArgs false
set_option linter.unusedSectionVars false
namespace Go.Ob
open Go.RowKit

def Fits (k : IntKind) (n : Int) : Prop := k.wrap n = n
theorem fit_i64 {n : Int} (h1 : -9223372036854775808 ≤ n) (h2 : n ≤ 9223372036854775807) : Fits .i64 n := IntWalk.i64_in n ⟨h1, h2⟩
theorem fit_i32 {n : Int} (h1 : -2147483648 ≤ n) (h2 : n ≤ 2147483647) : Fits .i32 n := IntWalk.i32_in n ⟨h1, h2⟩
theorem fit_u8 {n : Int} (h1 : 0 ≤ n) (h2 : n ≤ 255) : Fits .u8 n := IntWalk.u8_in n ⟨h1, h2⟩
theorem fit_u32 {n : Int} (h1 : 0 ≤ n) (h2 : n ≤ 4294967295) : Fits .u32 n := IntWalk.u32_in n ⟨h1, h2⟩
theorem fit_u64 {n : Int} (h1 : 0 ≤ n) (h2 : n ≤ 18446744073709551615) : Fits .u64 n := IntWalk.u64_in n ⟨h1, h2⟩

section
variable {P : Program} {H : Hp} {env : Env} {dst : Option Tmp} {ty : TypeId} {pos : String} {af : Array Edge} {gd : Option (Nat × Bool)} {t t2 : TypeId} {x y : Operand}

theorem pure_conv {s d : TypeId} {k0 k k1 : IntKind} {a : Int} (hs : P.underlying s = some (.int k0)) (hd : P.underlying d = some (.int k)) (hx : opD env x = some (.v (.int k1 a))) (hr : Fits k a) :
    Pure P H ⟨dst, .convert s d x, ty, pos, af, gd⟩ env (.v (.int k a)) := pure_of fun w _ ρ _ h => by
  have e1 := Rep.of_v (h x (by simp [Op.operands]) _ hx)
  have hw : k.wrap a = a := hr
  exact ⟨_, by simp [execOp, convert, run_underlying hs, run_underlying hd, e1, Conv.intToInt, hw], .v _⟩
theorem pure_convw {s d : TypeId} {k0 k k1 : IntKind} {a : Int} (hs : P.underlying s = some (.int k0)) (hd : P.underlying d = some (.int k)) (hx : opD env x = some (.v (.int k1 a))) :
    Pure P H ⟨dst, .convert s d x, ty, pos, af, gd⟩ env (.v (.int k (k.wrap a))) := pure_of fun w _ ρ _ h => by
  have e1 := Rep.of_v (h x (by simp [Op.operands]) _ hx)
  exact ⟨_, by simp [execOp, convert, run_underlying hs, run_underlying hd, e1, Conv.intToInt], .v _⟩

/-- x >> n, n a constant below the width -/
theorem pure_shr {k yk : IntKind} {a n : Int} (hx : opD env x = some (.v (.int k a))) (hy : opD env y = some (.v (.int yk n))) (h0 : 0 ≤ n) (h1 : n.toNat ≤ k.bits) :
    Pure P H ⟨dst, .binOp .shr t x y t2, ty, pos, af, gd⟩ env (.v (.int k (a / 2 ^ n.toNat))) := pure_bin hx hy fun w => by
  have hm : min n.toNat k.bits = n.toNat := by omega
  have hp : (0 : Int) ≤ 2 ^ n.toNat := Int.le_of_lt (Int.pow_pos (by omega))
  simp [eqGuard, binOp, Op.shift, show ¬ n < 0 by omega, hm, Int.fdiv_eq_ediv_of_nonneg _ hp]

theorem pure_shrl {k yk : IntKind} {a n m : Int} (hm : (2 : Int) ^ n.toNat = m) (hx : opD env x = some (.v (.int k a))) (hy : opD env y = some (.v (.int yk n))) (h0 : 0 ≤ n) (h1 : n.toNat ≤ k.bits) :
    Pure P H ⟨dst, .binOp .shr t x y t2, ty, pos, af, gd⟩ env (.v (.int k (a / m))) := by subst hm; exact pure_shr hx hy h0 h1

/-- x / y and x % y, x not below 0, y positive -/
theorem pure_quo {a b : Int} (hx : opD env x = some (.v (.int .i64 a))) (hy : opD env y = some (.v (.int .i64 b))) (h0 : 0 ≤ a) (h1 : a ≤ 9223372036854775807) (h2 : 1 ≤ b) :
    Pure P H ⟨dst, .binOp .quo t x y t2, ty, pos, af, gd⟩ env (.v (.int .i64 (a / b))) := pure_bin hx hy fun w => by
  simp [eqGuard, binOp, Op.intDiv, show ¬ b = 0 by omega, IntWalk.i64_quo a b ⟨h0, h1, h2⟩]
theorem pure_rem {a b : Int} (hx : opD env x = some (.v (.int .i64 a))) (hy : opD env y = some (.v (.int .i64 b))) (h0 : 0 ≤ a) (h2 : b ≠ 0) :
    Pure P H ⟨dst, .binOp .rem t x y t2, ty, pos, af, gd⟩ env (.v (.int .i64 (a % b))) := pure_bin hx hy fun w => by
  simp [eqGuard, binOp, Op.intDiv, h2, Int.tmod_eq_emod_of_nonneg h0]
/-- whatever the signs -/
theorem pure_remw {k : IntKind} {a b : Int} (hx : opD env x = some (.v (.int k a))) (hy : opD env y = some (.v (.int k b))) (h2 : b ≠ 0) :
    Pure P H ⟨dst, .binOp .rem t x y t2, ty, pos, af, gd⟩ env (.v (.int k (a.tmod b))) := pure_bin hx hy fun w => by
  simp [eqGuard, binOp, Op.intDiv, h2]
theorem pure_quow {k : IntKind} {a b : Int} (hx : opD env x = some (.v (.int k a))) (hy : opD env y = some (.v (.int k b))) (h2 : b ≠ 0) :
    Pure P H ⟨dst, .binOp .quo t x y t2, ty, pos, af, gd⟩ env (.v (.int k (k.wrap (a.tdiv b)))) := pure_bin hx hy fun w => by
  simp [eqGuard, binOp, Op.intDiv, h2]

end

/-! ### results -/
section
variable {env : Env} {H : Hp} {P : Program}
theorem ret2 {t1 t2 : Nat} {r d1 d2 : D} {e : Exit} (he : e = .ret ∨ e = .normal) (h1 : env t1 = some d1) (h2 : env t2 = some d2) (h : D.tup [d1, d2] = r) : RetA P [ResultVar.tmp t1, .tmp t2].toArray (fun r' H' => r' = r ∧ H' = []) e env H :=
  ⟨he, [d1, d2], .tmp h1 (.tmp h2 .nil), [], List.nil_sublist _, h, rfl⟩
theorem ret3 {t1 t2 t3 : Nat} {r d1 d2 d3 : D} {e : Exit} (he : e = .ret ∨ e = .normal) (h1 : env t1 = some d1) (h2 : env t2 = some d2) (h3 : env t3 = some d3) (h : D.tup [d1, d2, d3] = r) : RetA P [ResultVar.tmp t1, .tmp t2, .tmp t3].toArray (fun r' H' => r' = r ∧ H' = []) e env H :=
  ⟨he, [d1, d2, d3], .tmp h1 (.tmp h2 (.tmp h3 .nil)), [], List.nil_sublist _, h, rfl⟩
theorem ret4 {t1 t2 t3 t4 : Nat} {r d1 d2 d3 d4 : D} {e : Exit} (he : e = .ret ∨ e = .normal) (h1 : env t1 = some d1) (h2 : env t2 = some d2) (h3 : env t3 = some d3) (h4 : env t4 = some d4) (h : D.tup [d1, d2, d3, d4] = r) : RetA P [ResultVar.tmp t1, .tmp t2, .tmp t3, .tmp t4].toArray (fun r' H' => r' = r ∧ H' = []) e env H :=
  ⟨he, [d1, d2, d3, d4], .tmp h1 (.tmp h2 (.tmp h3 (.tmp h4 .nil))), [], List.nil_sublist _, h, rfl⟩
/-- A struct that lies in memory. -/
theorem ret_cell {t T n g T' : Nat} {cs : List D} {r : D} {e : Exit} (he : e = .ret ∨ e = .normal) (hT : AggT P T n) (h1 : env t = some (.v (.pointer (some ⟨g, 0, none⟩)))) (hm : Blk.box g T' cs ∈ H) (hl : Nat.beq cs.length n = true) (h : D.agg cs = r) :
    RetA P [ResultVar.cell t T].toArray (fun r' H' => r' = r ∧ H' = []) e env H :=
  ⟨he, [.agg cs], .cell hT h1 hm hl .nil, [], List.nil_sublist _, h, rfl⟩
theorem ret_cell_tmp {t T n g T' u : Nat} {cs : List D} {d r : D} {e : Exit} (he : e = .ret ∨ e = .normal) (hT : AggT P T n) (h1 : env t = some (.v (.pointer (some ⟨g, 0, none⟩)))) (hm : Blk.box g T' cs ∈ H) (hl : Nat.beq cs.length n = true)
    (h2 : env u = some d) (h : D.tup [.agg cs, d] = r) : RetA P [ResultVar.cell t T, .tmp u].toArray (fun r' H' => r' = r ∧ H' = []) e env H :=
  ⟨he, [.agg cs, d], .cell hT h1 hm hl (.tmp h2 .nil), [], List.nil_sublist _, h, rfl⟩
/-- The same, what was made becoming data. -/
theorem retF_cell {t T n g T' : Nat} {cs : List D} {r : D} {e : Exit} (he : e = .ret ∨ e = .normal) (hT : AggT P T n) (h1 : env t = some (.v (.pointer (some ⟨g, 0, none⟩)))) (hm : Blk.box g T' cs ∈ H) (hl : Nat.beq cs.length n = true) (h : FrzR (· ∈ H) (.agg cs) r) :
    RetF P [ResultVar.cell t T].toArray r e env H := ⟨he, [.agg cs], .cell hT h1 hm hl .nil, h⟩
theorem retF2 {t1 t2 : Nat} {r d1 d2 : D} {e : Exit} (he : e = .ret ∨ e = .normal) (h1 : env t1 = some d1) (h2 : env t2 = some d2) (h : FrzR (· ∈ H) (D.tup [d1, d2]) r) : RetF P [ResultVar.tmp t1, .tmp t2].toArray r e env H :=
  ⟨he, [d1, d2], .tmp h1 (.tmp h2 .nil), h⟩
end
end Go.Ob
