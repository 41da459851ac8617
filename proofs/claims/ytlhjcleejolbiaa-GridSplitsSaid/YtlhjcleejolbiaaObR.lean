/- Pointers: the check against nil, comparison with nil. -/
import Derived.Test.YtlhjcleejolbiaaObQ
set_option linter.unusedVariables false
set_option linter.unusedSimpArgs false
set_option linter.unusedSectionVars false
namespace Go.Ob
open Go.RowKit
section
variable {P : Program} {H : Hp} {env : Env} {dst : Option Tmp} {ty : TypeId} {pos : String} {af : Array Edge} {gd : Option (Nat × Bool)}
theorem Rep.at_ptr {w : World} {o : Nat → Prop} {cs : List D} {u : Value} (h : Rep w o (.at_ cs) u) : ∃ a, u = .pointer (some a) := by
  cases h; exact ⟨_, rfl⟩
theorem pure_nilCheck {x : Operand} {cs : List D} (hx : opD env x = some (.at_ cs)) : Pure P H ⟨dst, .nilCheck x, ty, pos, af, gd⟩ env (.at_ cs) := pure_of fun w _ ρ _ h => by
  have e1 := h x (by simp [Op.operands]) _ hx
  obtain ⟨a, ha⟩ := e1.at_ptr
  rw [ha] at e1
  exact ⟨_, by simp [execOp, ha], e1⟩
theorem pure_nilCheck_own {x : Operand} {g p : Nat} (hx : opD env x = some (.v (.pointer (some ⟨g, p, none⟩)))) : Pure P H ⟨dst, .nilCheck x, ty, pos, af, gd⟩ env (.v (.pointer (some ⟨g, p, none⟩))) := pure_of fun w _ ρ _ h => by
  have e1 := Rep.of_v (h x (by simp [Op.operands]) _ hx)
  exact ⟨_, by simp [execOp, e1], .v _⟩
section
variable {t t2 e : TypeId} {x y : Operand} {cs : List D}
theorem run_eq_at (ht : P.underlying t = some (.pointer e)) (w : World) (a : Addr) (d : Nat) : (Op.equalIn (d + 1) t (.pointer (some a)) (.pointer none)).run P w = .ok false w := by
  unfold Op.equalIn; simp [run_underlying ht]
theorem run_eq_nil (ht : P.underlying t = some (.pointer e)) (w : World) (d : Nat) : (Op.equalIn (d + 1) t (.pointer none) (.pointer none)).run P w = .ok true w := by
  unfold Op.equalIn; simp [run_underlying ht]
theorem run_guard_ptr {op : BinOp} (w : World) (a b : Option Addr) : (eqGuard op t x y (.pointer a) (.pointer b)).run P w = .ok () w := by
  unfold eqGuard; split <;> rfl
theorem pure_eql_at (ht : P.underlying t = some (.pointer e)) (hx : opD env x = some (.at_ cs)) (hy : opD env y = some (.v (.pointer none))) :
    Pure P H ⟨dst, .binOp .eql t x y t2, ty, pos, af, gd⟩ env (.v (.bool false)) := pure_of fun w _ ρ _ h => by
  obtain ⟨a, ha⟩ := (h x (by simp [Op.operands]) _ hx).at_ptr
  have e2 := Rep.of_v (h y (by simp [Op.operands]) _ hy)
  have e3 : binOp .eql t (.pointer (some a)) (.pointer none) = (do pure (.bool (← Op.equal t (.pointer (some a)) (.pointer none)))) := rfl
  exact ⟨_, by simp only [execOp, ha, e2, Sem.run_bind, run_guard_ptr, Result.andThen_ok, e3, Op.equal, Op.maxDepth, run_eq_at ht w a 9999]; rfl, .v _⟩
theorem pure_neq_at (ht : P.underlying t = some (.pointer e)) (hx : opD env x = some (.at_ cs)) (hy : opD env y = some (.v (.pointer none))) :
    Pure P H ⟨dst, .binOp .neq t x y t2, ty, pos, af, gd⟩ env (.v (.bool true)) := pure_of fun w _ ρ _ h => by
  obtain ⟨a, ha⟩ := (h x (by simp [Op.operands]) _ hx).at_ptr
  have e2 := Rep.of_v (h y (by simp [Op.operands]) _ hy)
  have e3 : binOp .neq t (.pointer (some a)) (.pointer none) = (do pure (.bool (!(← Op.equal t (.pointer (some a)) (.pointer none))))) := rfl
  exact ⟨_, by simp only [execOp, ha, e2, Sem.run_bind, run_guard_ptr, Result.andThen_ok, e3, Op.equal, Op.maxDepth, run_eq_at ht w a 9999]; rfl, .v _⟩
theorem pure_eql_nil (ht : P.underlying t = some (.pointer e)) (hx : opD env x = some (.v (.pointer none))) (hy : opD env y = some (.v (.pointer none))) :
    Pure P H ⟨dst, .binOp .eql t x y t2, ty, pos, af, gd⟩ env (.v (.bool true)) := pure_bin hx hy fun w => by
  have e3 : binOp .eql t (.pointer none) (.pointer none) = (do pure (.bool (← Op.equal t (.pointer none) (.pointer none)))) := rfl
  simp only [Sem.run_bind, run_guard_ptr, Result.andThen_ok, e3, Op.equal, Op.maxDepth, run_eq_nil ht w 9999]; rfl
theorem pure_neq_nil (ht : P.underlying t = some (.pointer e)) (hx : opD env x = some (.v (.pointer none))) (hy : opD env y = some (.v (.pointer none))) :
    Pure P H ⟨dst, .binOp .neq t x y t2, ty, pos, af, gd⟩ env (.v (.bool false)) := pure_bin hx hy fun w => by
  have e3 : binOp .neq t (.pointer none) (.pointer none) = (do pure (.bool (!(← Op.equal t (.pointer none) (.pointer none))))) := rfl
  simp only [Sem.run_bind, run_guard_ptr, Result.andThen_ok, e3, Op.equal, Op.maxDepth, run_eq_nil ht w 9999]; rfl
end
end
end Go.Ob
