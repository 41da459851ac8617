import Derived.Test.YtkmgogabbefonaaDoorK1
set_option linter.unusedVariables false
set_option linter.unusedSimpArgs false
namespace Go.Ob
open Go.Proofs

/-! ### boundaries -/
def Ctl (c : Int) : Prop := c = 1 ∨ c = 2 ∨ c = 3
instance (c : Int) : Decidable (Ctl c) := by unfold Ctl; infer_instance
def Hang (a b : Int) : Prop := a = 8 ∧ (b = 8 ∨ b = 9 ∨ b = 11 ∨ b = 12) ∨ (a = 11 ∨ a = 9) ∧ (b = 9 ∨ b = 10) ∨ (a = 12 ∨ a = 10) ∧ b = 10
instance (a b : Int) : Decidable (Hang a b) := by unfold Hang; infer_instance
/-- is there a boundary between classes a and b; pd: a is a Joiner behind a picture; rg: the Regional units up to a -/
def bd (a b : Int) (pd : Bool) (rg : Int) : Bool :=
  if a = 1 ∧ b = 2 then false else if Ctl a ∨ Ctl b then true else if Hang a b ∨ b = 4 ∨ b = 5 ∨ b = 7 ∨ a = 6 then false
  else if a = 5 ∧ b = 14 ∧ pd = true then false else if a = 13 ∧ b = 13 ∧ rg % 2 = 1 then false else true
structure MS where
  before : Int
  pic : Bool
  picd : Bool
  reg : Int
def encM (m : MS) : List D := [.v (.int .i64 m.before), .v (.bool m.pic), .v (.bool m.picd), .v (.int .i64 m.reg)]
def m0 : MS := ⟨0, false, false, 0⟩
def stepM (m : MS) (c : Int) : MS := ⟨c, decide (c = 14 ∨ c = 4 ∧ m.pic = true), decide (c = 5 ∧ m.pic = true), if c = 13 then m.reg + 1 else 0⟩
set_option maxRecDepth 100000 in
theorem control_spec (c : Int) : Fun Tryd.prog 70 [.v (.int .i64 c)] (.v (.bool (decide (Ctl c)))) := by
  refine Fun.enter (n := 13) (rs := [.tmp 2]) Tryd.func70 rfl Tryd.ntmps70 Tryd.results70 rfl (fun w F => ?_)
  refine TC.seq ?_
  refine TC.region ?_
  refine TL.run1 (pure_assign rfl) rfl ?_
  refine TL.nil' ?_
  refine TC.regionCut [3, 4, 5, 6, 7, 8, 9, 10, 11, 12, 2] 2 (Ctl c) ?_ ?_
  · skip
    refine TL.run1 (pure_move rfl) rfl ?_
    refine TL.run1 (pure_eql rfl rfl) rfl ?_
    refine TL.run1 (pure_move rfl) rfl ?_
    first | refine TL.splitP 5 rfl (fun hg5 => ?_) (fun hg5 => ?_) | refine TL.split 5 rfl (fun hg5 => ?_) (fun hg5 => ?_)
    · try dsimp only at hg5
      refine TL.passG rfl rfl rfl rfl ?_
      refine TL.passG rfl rfl rfl rfl ?_
      refine TL.run1 (pure_pick_true rfl rfl) rfl ?_
      refine TL.run1 (pure_move rfl) rfl ?_
      refine TL.passG rfl rfl rfl rfl ?_
      refine TL.passG rfl rfl rfl rfl ?_
      refine TL.run1 (pure_pick_true rfl rfl) rfl ?_
      refine TL.run1 (pure_assign rfl) rfl ?_
      refine TL.cutEnd (by repeat (first | exact Same.refl _ _ | refine Same.put rfl ?_)) rfl ?_
      first | (simp only [Ctl, Hang, decide_eq_true_eq, Bool.false_eq_true, false_iff, true_iff, iff_true, iff_false, Bool.not_eq_true]; omega) | grind [Ctl, Hang]
    · try dsimp only at hg5
      refine TL.runG rfl rfl (pure_move rfl) rfl ?_
      refine TL.runG rfl rfl (pure_eql rfl rfl) rfl ?_
      refine TL.run1 (pure_pick_false rfl rfl) rfl ?_
      refine TL.run1 (pure_move rfl) rfl ?_
      first | refine TL.splitP 9 rfl (fun hg9 => ?_) (fun hg9 => ?_) | refine TL.split 9 rfl (fun hg9 => ?_) (fun hg9 => ?_)
      · try dsimp only at hg9
        refine TL.passG rfl rfl rfl rfl ?_
        refine TL.passG rfl rfl rfl rfl ?_
        refine TL.run1 (pure_pick_true rfl rfl) rfl ?_
        refine TL.run1 (pure_assign rfl) rfl ?_
        refine TL.cutEnd (by repeat (first | exact Same.refl _ _ | refine Same.put rfl ?_)) rfl ?_
        first | (simp only [Ctl, Hang, decide_eq_true_eq, Bool.false_eq_true, false_iff, true_iff, iff_true, iff_false, Bool.not_eq_true]; omega) | grind [Ctl, Hang]
      · try dsimp only at hg9
        refine TL.runG rfl rfl (pure_move rfl) rfl ?_
        refine TL.runG rfl rfl (pure_eql rfl rfl) rfl ?_
        refine TL.run1 (pure_pick_false rfl rfl) rfl ?_
        refine TL.run1 (pure_assign rfl) rfl ?_
        refine TL.cutEnd (by repeat (first | exact Same.refl _ _ | refine Same.put rfl ?_)) rfl ?_
        first | (simp only [Ctl, Hang, decide_eq_true_eq, Bool.false_eq_true, false_iff, true_iff, iff_true, iff_false, Bool.not_eq_true]; omega) | grind [Ctl, Hang]
  refine TC.ret ?_
  exact ret_bool rfl (by simp)
end Go.Ob
