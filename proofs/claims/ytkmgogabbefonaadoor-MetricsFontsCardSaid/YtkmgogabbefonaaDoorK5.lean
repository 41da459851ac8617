import Derived.Test.YtkmgogabbefonaaDoorK3
set_option linter.unusedVariables false
set_option linter.unusedSimpArgs false
namespace Go.Ob
open Go.Proofs
set_option maxRecDepth 100000 in
theorem hangul_spec (a b : Int) : Fun Tryd.prog 71 [.v (.int .i64 a), .v (.int .i64 b)] (.v (.bool (decide (Hang a b)))) := by
  refine Fun.enter (n := 36) (rs := [.tmp 4]) Tryd.func71 rfl Tryd.ntmps71 Tryd.results71 rfl (fun w F => ?_)
  refine TC.seq ?_
  refine TC.region ?_
  refine TL.run1 (pure_assign rfl) rfl ?_
  refine TL.nil' ?_
  refine TC.seq ?_
  refine TC.seq ?_
  refine TC.region ?_
  refine TL.run1 (pure_move rfl) rfl ?_
  refine TL.nil' ?_
  refine TC.block ?_
  refine TC.seq ?_
  refine TC.region ?_
  refine TL.run1 (pure_eql rfl rfl) rfl ?_
  refine TL.run1 (pure_assign rfl) rfl ?_
  refine TL.nil' ?_
  first | refine TC.condD rfl (fun hc6 => ?_) (fun hc6 => ?_) | refine TC.condN rfl (fun hc6 => ?_) (fun hc6 => ?_) | refine TC.cond rfl (fun hc6 => ?_) (fun hc6 => ?_)
  · try dsimp only at hc6
    refine TC.regionCut [8, 9, 10, 11, 12, 13, 14, 15, 16, 17, 18, 19, 20, 21, 4] 4 (b = 8 ∨ b = 9 ∨ b = 11 ∨ b = 12) ?_ ?_
    · skip
      refine TL.run1 (pure_move rfl) rfl ?_
      refine TL.run1 (pure_eql rfl rfl) rfl ?_
      refine TL.run1 (pure_move rfl) rfl ?_
      first | refine TL.splitP 10 rfl (fun hg10 => ?_) (fun hg10 => ?_) | refine TL.split 10 rfl (fun hg10 => ?_) (fun hg10 => ?_)
      · try dsimp only at hg10
        refine TL.passG rfl rfl rfl rfl ?_
        refine TL.passG rfl rfl rfl rfl ?_
        refine TL.run1 (pure_pick_true rfl rfl) rfl ?_
        refine TL.run1 (pure_move rfl) rfl ?_
        refine TL.passG rfl rfl rfl rfl ?_
        refine TL.passG rfl rfl rfl rfl ?_
        refine TL.run1 (pure_pick_true rfl rfl) rfl ?_
        refine TL.run1 (pure_move rfl) rfl ?_
        refine TL.passG rfl rfl rfl rfl ?_
        refine TL.passG rfl rfl rfl rfl ?_
        refine TL.run1 (pure_pick_true rfl rfl) rfl ?_
        refine TL.run1 (pure_assign rfl) rfl ?_
        refine TL.cutEnd (by repeat (first | exact Same.refl _ _ | refine Same.put rfl ?_)) rfl ?_
        first | (simp only [decide_eq_true_eq, Bool.false_eq_true, false_iff, true_iff, iff_true, iff_false, Bool.not_eq_true]; omega) | (simp_all; done) | (simp_all; omega) | grind
      · try dsimp only at hg10
        refine TL.runG rfl rfl (pure_move rfl) rfl ?_
        refine TL.runG rfl rfl (pure_eql rfl rfl) rfl ?_
        refine TL.run1 (pure_pick_false rfl rfl) rfl ?_
        refine TL.run1 (pure_move rfl) rfl ?_
        first | refine TL.splitP 14 rfl (fun hg14 => ?_) (fun hg14 => ?_) | refine TL.split 14 rfl (fun hg14 => ?_) (fun hg14 => ?_)
        · try dsimp only at hg14
          refine TL.passG rfl rfl rfl rfl ?_
          refine TL.passG rfl rfl rfl rfl ?_
          refine TL.run1 (pure_pick_true rfl rfl) rfl ?_
          refine TL.run1 (pure_move rfl) rfl ?_
          refine TL.passG rfl rfl rfl rfl ?_
          refine TL.passG rfl rfl rfl rfl ?_
          refine TL.run1 (pure_pick_true rfl rfl) rfl ?_
          refine TL.run1 (pure_assign rfl) rfl ?_
          refine TL.cutEnd (by repeat (first | exact Same.refl _ _ | refine Same.put rfl ?_)) rfl ?_
          first | (simp only [decide_eq_true_eq, Bool.false_eq_true, false_iff, true_iff, iff_true, iff_false, Bool.not_eq_true]; omega) | (simp_all; done) | (simp_all; omega) | grind
        · try dsimp only at hg14
          refine TL.runG rfl rfl (pure_move rfl) rfl ?_
          refine TL.runG rfl rfl (pure_eql rfl rfl) rfl ?_
          refine TL.run1 (pure_pick_false rfl rfl) rfl ?_
          refine TL.run1 (pure_move rfl) rfl ?_
          first | refine TL.splitP 18 rfl (fun hg18 => ?_) (fun hg18 => ?_) | refine TL.split 18 rfl (fun hg18 => ?_) (fun hg18 => ?_)
          · try dsimp only at hg18
            refine TL.passG rfl rfl rfl rfl ?_
            refine TL.passG rfl rfl rfl rfl ?_
            refine TL.run1 (pure_pick_true rfl rfl) rfl ?_
            refine TL.run1 (pure_assign rfl) rfl ?_
            refine TL.cutEnd (by repeat (first | exact Same.refl _ _ | refine Same.put rfl ?_)) rfl ?_
            first | (simp only [decide_eq_true_eq, Bool.false_eq_true, false_iff, true_iff, iff_true, iff_false, Bool.not_eq_true]; omega) | (simp_all; done) | (simp_all; omega) | grind
          · try dsimp only at hg18
            refine TL.runG rfl rfl (pure_move rfl) rfl ?_
            refine TL.runG rfl rfl (pure_eql rfl rfl) rfl ?_
            refine TL.run1 (pure_pick_false rfl rfl) rfl ?_
            refine TL.run1 (pure_assign rfl) rfl ?_
            refine TL.cutEnd (by repeat (first | exact Same.refl _ _ | refine Same.put rfl ?_)) rfl ?_
            first | (simp only [decide_eq_true_eq, Bool.false_eq_true, false_iff, true_iff, iff_true, iff_false, Bool.not_eq_true]; omega) | (simp_all; done) | (simp_all; omega) | grind
    refine TC.ret ?_
    refine block_ret ?_
    refine then_ret ?_
    exact ret_bool rfl (by simp only [Hang]; first | rfl | (rw [eq_comm, decide_eq_false_iff_not]; omega) | (rw [eq_comm, decide_eq_true_eq]; omega) | (rw [decide_eq_decide]; omega) | (simp_all; done) | grind)
  · try dsimp only at hc6
    refine TC.seq ?_
    refine TC.seq ?_
    refine TC.region ?_
    refine TL.run1 (pure_eql rfl rfl) rfl ?_
    refine TL.run1 (pure_assign rfl) rfl ?_
    refine TL.nil' ?_
    first | refine TC.condD rfl (fun hc22 => ?_) (fun hc22 => ?_) | refine TC.condN rfl (fun hc22 => ?_) (fun hc22 => ?_) | refine TC.cond rfl (fun hc22 => ?_) (fun hc22 => ?_)
    · try dsimp only at hc22
      refine TC.skip' ?_
      first | refine TC.condD rfl (fun hc22 => ?_) (fun hc22 => ?_) | refine TC.condN rfl (fun hc22 => ?_) (fun hc22 => ?_) | refine TC.cond rfl (fun hc22 => ?_) (fun hc22 => ?_)
      · try dsimp only at hc22
        refine TC.regionCut [25, 26, 27, 28, 29, 30, 4] 4 (b = 9 ∨ b = 10) ?_ ?_
        · skip
          refine TL.run1 (pure_move rfl) rfl ?_
          refine TL.run1 (pure_eql rfl rfl) rfl ?_
          refine TL.run1 (pure_move rfl) rfl ?_
          first | refine TL.splitP 27 rfl (fun hg27 => ?_) (fun hg27 => ?_) | refine TL.split 27 rfl (fun hg27 => ?_) (fun hg27 => ?_)
          · try dsimp only at hg27
            refine TL.passG rfl rfl rfl rfl ?_
            refine TL.passG rfl rfl rfl rfl ?_
            refine TL.run1 (pure_pick_true rfl rfl) rfl ?_
            refine TL.run1 (pure_assign rfl) rfl ?_
            refine TL.cutEnd (by repeat (first | exact Same.refl _ _ | refine Same.put rfl ?_)) rfl ?_
            first | (simp only [decide_eq_true_eq, Bool.false_eq_true, false_iff, true_iff, iff_true, iff_false, Bool.not_eq_true]; omega) | (simp_all; done) | (simp_all; omega) | grind
          · try dsimp only at hg27
            refine TL.runG rfl rfl (pure_move rfl) rfl ?_
            refine TL.runG rfl rfl (pure_eql rfl rfl) rfl ?_
            refine TL.run1 (pure_pick_false rfl rfl) rfl ?_
            refine TL.run1 (pure_assign rfl) rfl ?_
            refine TL.cutEnd (by repeat (first | exact Same.refl _ _ | refine Same.put rfl ?_)) rfl ?_
            first | (simp only [decide_eq_true_eq, Bool.false_eq_true, false_iff, true_iff, iff_true, iff_false, Bool.not_eq_true]; omega) | (simp_all; done) | (simp_all; omega) | grind
        refine TC.ret ?_
        refine block_ret ?_
        refine then_ret ?_
        exact ret_bool rfl (by simp only [Hang]; first | rfl | (rw [eq_comm, decide_eq_false_iff_not]; omega) | (rw [eq_comm, decide_eq_true_eq]; omega) | (rw [decide_eq_decide]; omega) | (simp_all; done) | grind)
      · try dsimp only at hc22
        refine TC.seq ?_
        refine TC.seq ?_
        refine TC.region ?_
        refine TL.run1 (pure_eql rfl rfl) rfl ?_
        refine TL.run1 (pure_assign rfl) rfl ?_
        refine TL.nil' ?_
        first | refine TC.condD rfl (fun hc31 => ?_) (fun hc31 => ?_) | refine TC.condN rfl (fun hc31 => ?_) (fun hc31 => ?_) | refine TC.cond rfl (fun hc31 => ?_) (fun hc31 => ?_)
        · try dsimp only at hc31
          refine TC.skip' ?_
          first | refine TC.condD rfl (fun hc31 => ?_) (fun hc31 => ?_) | refine TC.condN rfl (fun hc31 => ?_) (fun hc31 => ?_) | refine TC.cond rfl (fun hc31 => ?_) (fun hc31 => ?_)
          · try dsimp only at hc31
            refine TC.seq ?_
            refine TC.region ?_
            refine TL.run1 (pure_move rfl) rfl ?_
            refine TL.run1 (pure_eql rfl rfl) rfl ?_
            refine TL.run1 (pure_assign rfl) rfl ?_
            refine TL.nil' ?_
            refine TC.ret ?_
            refine block_ret ?_
            refine then_ret ?_
            exact ret_bool rfl (by simp only [Hang]; first | rfl | (rw [eq_comm, decide_eq_false_iff_not]; omega) | (rw [eq_comm, decide_eq_true_eq]; omega) | (rw [decide_eq_decide]; omega) | (simp_all; done) | grind)
          · try dsimp only at hc31
            refine TC.skip ?_
            refine block_normal ?_
            refine then_normal ?_
            refine TC.seq ?_
            refine TC.region ?_
            refine TL.run1 (pure_assign rfl) rfl ?_
            refine TL.nil' ?_
            refine TC.ret ?_
            exact ret_bool rfl (by simp only [Hang]; first | rfl | (rw [eq_comm, decide_eq_false_iff_not]; omega) | (rw [eq_comm, decide_eq_true_eq]; omega) | (rw [decide_eq_decide]; omega) | (simp_all; done) | grind)
        · try dsimp only at hc31
          refine TC.region ?_
          refine TL.run1 (pure_eql rfl rfl) rfl ?_
          refine TL.run1 (pure_assign rfl) rfl ?_
          refine TL.nil' ?_
          first | refine TC.condD rfl (fun hc31 => ?_) (fun hc31 => ?_) | refine TC.condN rfl (fun hc31 => ?_) (fun hc31 => ?_) | refine TC.cond rfl (fun hc31 => ?_) (fun hc31 => ?_)
          · try dsimp only at hc31
            refine TC.seq ?_
            refine TC.region ?_
            refine TL.run1 (pure_move rfl) rfl ?_
            refine TL.run1 (pure_eql rfl rfl) rfl ?_
            refine TL.run1 (pure_assign rfl) rfl ?_
            refine TL.nil' ?_
            refine TC.ret ?_
            refine block_ret ?_
            refine then_ret ?_
            exact ret_bool rfl (by simp only [Hang]; first | rfl | (rw [eq_comm, decide_eq_false_iff_not]; omega) | (rw [eq_comm, decide_eq_true_eq]; omega) | (rw [decide_eq_decide]; omega) | (simp_all; done) | grind)
          · try dsimp only at hc31
            refine TC.skip ?_
            refine block_normal ?_
            refine then_normal ?_
            refine TC.seq ?_
            refine TC.region ?_
            refine TL.run1 (pure_assign rfl) rfl ?_
            refine TL.nil' ?_
            refine TC.ret ?_
            exact ret_bool rfl (by simp only [Hang]; first | rfl | (rw [eq_comm, decide_eq_false_iff_not]; omega) | (rw [eq_comm, decide_eq_true_eq]; omega) | (rw [decide_eq_decide]; omega) | (simp_all; done) | grind)
    · try dsimp only at hc22
      refine TC.region ?_
      refine TL.run1 (pure_eql rfl rfl) rfl ?_
      refine TL.run1 (pure_assign rfl) rfl ?_
      refine TL.nil' ?_
      first | refine TC.condD rfl (fun hc22 => ?_) (fun hc22 => ?_) | refine TC.condN rfl (fun hc22 => ?_) (fun hc22 => ?_) | refine TC.cond rfl (fun hc22 => ?_) (fun hc22 => ?_)
      · try dsimp only at hc22
        refine TC.regionCut [25, 26, 27, 28, 29, 30, 4] 4 (b = 9 ∨ b = 10) ?_ ?_
        · skip
          refine TL.run1 (pure_move rfl) rfl ?_
          refine TL.run1 (pure_eql rfl rfl) rfl ?_
          refine TL.run1 (pure_move rfl) rfl ?_
          first | refine TL.splitP 27 rfl (fun hg27 => ?_) (fun hg27 => ?_) | refine TL.split 27 rfl (fun hg27 => ?_) (fun hg27 => ?_)
          · try dsimp only at hg27
            refine TL.passG rfl rfl rfl rfl ?_
            refine TL.passG rfl rfl rfl rfl ?_
            refine TL.run1 (pure_pick_true rfl rfl) rfl ?_
            refine TL.run1 (pure_assign rfl) rfl ?_
            refine TL.cutEnd (by repeat (first | exact Same.refl _ _ | refine Same.put rfl ?_)) rfl ?_
            first | (simp only [decide_eq_true_eq, Bool.false_eq_true, false_iff, true_iff, iff_true, iff_false, Bool.not_eq_true]; omega) | (simp_all; done) | (simp_all; omega) | grind
          · try dsimp only at hg27
            refine TL.runG rfl rfl (pure_move rfl) rfl ?_
            refine TL.runG rfl rfl (pure_eql rfl rfl) rfl ?_
            refine TL.run1 (pure_pick_false rfl rfl) rfl ?_
            refine TL.run1 (pure_assign rfl) rfl ?_
            refine TL.cutEnd (by repeat (first | exact Same.refl _ _ | refine Same.put rfl ?_)) rfl ?_
            first | (simp only [decide_eq_true_eq, Bool.false_eq_true, false_iff, true_iff, iff_true, iff_false, Bool.not_eq_true]; omega) | (simp_all; done) | (simp_all; omega) | grind
        refine TC.ret ?_
        refine block_ret ?_
        refine then_ret ?_
        exact ret_bool rfl (by simp only [Hang]; first | rfl | (rw [eq_comm, decide_eq_false_iff_not]; omega) | (rw [eq_comm, decide_eq_true_eq]; omega) | (rw [decide_eq_decide]; omega) | (simp_all; done) | grind)
      · try dsimp only at hc22
        refine TC.seq ?_
        refine TC.seq ?_
        refine TC.region ?_
        refine TL.run1 (pure_eql rfl rfl) rfl ?_
        refine TL.run1 (pure_assign rfl) rfl ?_
        refine TL.nil' ?_
        first | refine TC.condD rfl (fun hc31 => ?_) (fun hc31 => ?_) | refine TC.condN rfl (fun hc31 => ?_) (fun hc31 => ?_) | refine TC.cond rfl (fun hc31 => ?_) (fun hc31 => ?_)
        · try dsimp only at hc31
          refine TC.skip' ?_
          first | refine TC.condD rfl (fun hc31 => ?_) (fun hc31 => ?_) | refine TC.condN rfl (fun hc31 => ?_) (fun hc31 => ?_) | refine TC.cond rfl (fun hc31 => ?_) (fun hc31 => ?_)
          · try dsimp only at hc31
            refine TC.seq ?_
            refine TC.region ?_
            refine TL.run1 (pure_move rfl) rfl ?_
            refine TL.run1 (pure_eql rfl rfl) rfl ?_
            refine TL.run1 (pure_assign rfl) rfl ?_
            refine TL.nil' ?_
            refine TC.ret ?_
            refine block_ret ?_
            refine then_ret ?_
            exact ret_bool rfl (by simp only [Hang]; first | rfl | (rw [eq_comm, decide_eq_false_iff_not]; omega) | (rw [eq_comm, decide_eq_true_eq]; omega) | (rw [decide_eq_decide]; omega) | (simp_all; done) | grind)
          · try dsimp only at hc31
            refine TC.skip ?_
            refine block_normal ?_
            refine then_normal ?_
            refine TC.seq ?_
            refine TC.region ?_
            refine TL.run1 (pure_assign rfl) rfl ?_
            refine TL.nil' ?_
            refine TC.ret ?_
            exact ret_bool rfl (by simp only [Hang]; first | rfl | (rw [eq_comm, decide_eq_false_iff_not]; omega) | (rw [eq_comm, decide_eq_true_eq]; omega) | (rw [decide_eq_decide]; omega) | (simp_all; done) | grind)
        · try dsimp only at hc31
          refine TC.region ?_
          refine TL.run1 (pure_eql rfl rfl) rfl ?_
          refine TL.run1 (pure_assign rfl) rfl ?_
          refine TL.nil' ?_
          first | refine TC.condD rfl (fun hc31 => ?_) (fun hc31 => ?_) | refine TC.condN rfl (fun hc31 => ?_) (fun hc31 => ?_) | refine TC.cond rfl (fun hc31 => ?_) (fun hc31 => ?_)
          · try dsimp only at hc31
            refine TC.seq ?_
            refine TC.region ?_
            refine TL.run1 (pure_move rfl) rfl ?_
            refine TL.run1 (pure_eql rfl rfl) rfl ?_
            refine TL.run1 (pure_assign rfl) rfl ?_
            refine TL.nil' ?_
            refine TC.ret ?_
            refine block_ret ?_
            refine then_ret ?_
            exact ret_bool rfl (by simp only [Hang]; first | rfl | (rw [eq_comm, decide_eq_false_iff_not]; omega) | (rw [eq_comm, decide_eq_true_eq]; omega) | (rw [decide_eq_decide]; omega) | (simp_all; done) | grind)
          · try dsimp only at hc31
            refine TC.skip ?_
            refine block_normal ?_
            refine then_normal ?_
            refine TC.seq ?_
            refine TC.region ?_
            refine TL.run1 (pure_assign rfl) rfl ?_
            refine TL.nil' ?_
            refine TC.ret ?_
            exact ret_bool rfl (by simp only [Hang]; first | rfl | (rw [eq_comm, decide_eq_false_iff_not]; omega) | (rw [eq_comm, decide_eq_true_eq]; omega) | (rw [decide_eq_decide]; omega) | (simp_all; done) | grind)
set_option maxRecDepth 100000 in
theorem boundary_spec (m : MS) (b : Int) (g : Nat) (hr0 : 0 ≤ m.reg) : CallD Tryd.prog 54 [.v (.pointer (some ⟨g, 0, none⟩)), .v (.int .i64 b)] [.box g 92 (encM m)] (fun r H' => r = .v (.bool (bd m.before b m.picd m.reg)) ∧ H' = [.box g 92 (encM m)]) := by
  refine CallD.enter (n := 64) (rs := [.tmp 4]) Tryd.func54 rfl Tryd.ntmps54 Tryd.results54 rfl (fun w F => ?_)
  refine TC.seq ?_
  refine TC.region ?_
  refine TL.run1 (pure_assign rfl) rfl ?_
  refine TL.nil' ?_
  refine TC.seq ?_
  refine TC.region ?_
  refine TL.run1 (pure_move rfl) rfl ?_
  first | refine TL.run1 (pure_nilCheck rfl) rfl ?_ | refine TL.run1 (pure_nilCheck_own rfl) rfl ?_
  first | refine TL.run1 (pure_fieldAddr Ty.f92_0 rfl (.zero _) (List.cons_ne_nil _ _)) rfl ?_ | refine TL.run1 (pure_fieldAddr_own Ty.f92_0 rfl) rfl ?_
  first | refine TL.run1 (pure_load1 Ty.one3 rfl) rfl ?_ | refine TL.run1 (pure_load1_own Ty.one3 rfl (by repeat (first | exact List.Mem.head _ | apply List.Mem.tail)) (by repeat (first | exact DropR.zero _ | apply DropR.succ))) rfl ?_
  refine TL.run1 (pure_assign rfl) rfl ?_
  refine TL.nil' ?_
  refine TC.seq ?_
  refine TC.block ?_
  refine TC.regionCut [11, 12, 13, 14, 15, 16, 10] 10 (m.before = 1 ∧ b = 2) ?_ ?_
  · skip
    refine TL.run1 (pure_move rfl) rfl ?_
    refine TL.run1 (pure_eql rfl rfl) rfl ?_
    refine TL.run1 (pure_move rfl) rfl ?_
    first | refine TL.splitP 13 rfl (fun hg13 => ?_) (fun hg13 => ?_) | refine TL.split 13 rfl (fun hg13 => ?_) (fun hg13 => ?_)
    · try dsimp only at hg13
      refine TL.runG rfl rfl (pure_move rfl) rfl ?_
      refine TL.runG rfl rfl (pure_eql rfl rfl) rfl ?_
      refine TL.run1 (pure_pick_true rfl rfl) rfl ?_
      refine TL.run1 (pure_assign rfl) rfl ?_
      refine TL.cutEnd (by repeat (first | exact Same.refl _ _ | refine Same.put rfl ?_)) rfl ?_
      first | (simp only [decide_eq_true_eq, Bool.false_eq_true, false_iff, true_iff, iff_true, iff_false, Bool.not_eq_true]; omega) | (simp_all; done) | (simp_all; omega) | grind
    · try dsimp only at hg13
      refine TL.passG rfl rfl rfl rfl ?_
      refine TL.passG rfl rfl rfl rfl ?_
      refine TL.run1 (pure_pick_false rfl rfl) rfl ?_
      refine TL.run1 (pure_assign rfl) rfl ?_
      refine TL.cutEnd (by repeat (first | exact Same.refl _ _ | refine Same.put rfl ?_)) rfl ?_
      first | (simp only [decide_eq_true_eq, Bool.false_eq_true, false_iff, true_iff, iff_true, iff_false, Bool.not_eq_true]; omega) | (simp_all; done) | (simp_all; omega) | grind
  first | refine TC.condD rfl (fun hc10 => ?_) (fun hc10 => ?_) | refine TC.condN rfl (fun hc10 => ?_) (fun hc10 => ?_) | refine TC.cond rfl (fun hc10 => ?_) (fun hc10 => ?_)
  · try dsimp only at hc10
    refine TC.seq ?_
    refine TC.region ?_
    refine TL.run1 (pure_assign rfl) rfl ?_
    refine TL.nil' ?_
    refine TC.ret ?_
    refine block_ret ?_
    refine then_ret ?_
    exact ret_boolK rfl (by first | (simp only [bd]; simp_all; done) | (simp_all [bd]; done) | grind [bd])
  · try dsimp only at hc10
    refine TC.regionCut [18, 19, 20, 21, 22, 23, 17] 17 (Ctl m.before ∨ Ctl b) ?_ ?_
    · skip
      refine TL.run1 (pure_move rfl) rfl ?_
      first | refine TL.run1 (pure_call (control_spec m.before) (.cons rfl .nil) Tryd.call70) rfl ?_ | refine TL.run1 (pure_call (control_spec b) (.cons rfl .nil) Tryd.call70) rfl ?_
      refine TL.run1 (pure_move rfl) rfl ?_
      first | refine TL.splitP 20 rfl (fun hg20 => ?_) (fun hg20 => ?_) | refine TL.split 20 rfl (fun hg20 => ?_) (fun hg20 => ?_)
      · try dsimp only at hg20
        refine TL.passG rfl rfl rfl rfl ?_
        refine TL.passG rfl rfl rfl rfl ?_
        refine TL.run1 (pure_pick_true rfl rfl) rfl ?_
        refine TL.run1 (pure_assign rfl) rfl ?_
        refine TL.cutEnd (by repeat (first | exact Same.refl _ _ | refine Same.put rfl ?_)) rfl ?_
        first | (simp only [decide_eq_true_eq, Bool.false_eq_true, false_iff, true_iff, iff_true, iff_false, Bool.not_eq_true]; omega) | (simp_all; done) | (simp_all; omega) | grind
      · try dsimp only at hg20
        refine TL.runG rfl rfl (pure_move rfl) rfl ?_
        first | refine TL.runG rfl rfl (pure_call (control_spec m.before) (.cons rfl .nil) Tryd.call70) rfl ?_ | refine TL.runG rfl rfl (pure_call (control_spec b) (.cons rfl .nil) Tryd.call70) rfl ?_
        refine TL.run1 (pure_pick_false rfl rfl) rfl ?_
        refine TL.run1 (pure_assign rfl) rfl ?_
        refine TL.cutEnd (by repeat (first | exact Same.refl _ _ | refine Same.put rfl ?_)) rfl ?_
        first | (simp only [decide_eq_true_eq, Bool.false_eq_true, false_iff, true_iff, iff_true, iff_false, Bool.not_eq_true]; omega) | (simp_all; done) | (simp_all; omega) | grind
    first | refine TC.condD rfl (fun hc17 => ?_) (fun hc17 => ?_) | refine TC.condN rfl (fun hc17 => ?_) (fun hc17 => ?_) | refine TC.cond rfl (fun hc17 => ?_) (fun hc17 => ?_)
    · try dsimp only at hc17
      refine TC.seq ?_
      refine TC.region ?_
      refine TL.run1 (pure_assign rfl) rfl ?_
      refine TL.nil' ?_
      refine TC.ret ?_
      refine block_ret ?_
      refine then_ret ?_
      exact ret_boolK rfl (by first | (simp only [bd]; simp_all; done) | (simp_all [bd]; done) | grind [bd])
    · try dsimp only at hc17
      refine TC.seq ?_
      refine TC.seq ?_
      refine TC.region ?_
      refine TL.run1 (pure_move rfl) rfl ?_
      refine TL.run1 (pure_move rfl) rfl ?_
      refine TL.run1 (pure_call (hangul_spec _ _) (.cons rfl (.cons rfl .nil)) Tryd.call71) rfl ?_
      refine TL.run1 (pure_assign rfl) rfl ?_
      refine TL.nil' ?_
      first | refine TC.condD rfl (fun hc24 => ?_) (fun hc24 => ?_) | refine TC.condN rfl (fun hc24 => ?_) (fun hc24 => ?_) | refine TC.cond rfl (fun hc24 => ?_) (fun hc24 => ?_)
      · try dsimp only at hc24
        refine TC.skip' ?_
        first | refine TC.condD rfl (fun hc24 => ?_) (fun hc24 => ?_) | refine TC.condN rfl (fun hc24 => ?_) (fun hc24 => ?_) | refine TC.cond rfl (fun hc24 => ?_) (fun hc24 => ?_)
        · try dsimp only at hc24
          refine TC.seq ?_
          refine TC.region ?_
          refine TL.run1 (pure_assign rfl) rfl ?_
          refine TL.nil' ?_
          refine TC.ret ?_
          refine block_ret ?_
          refine then_ret ?_
          exact ret_boolK rfl (by first | (simp only [bd]; simp_all; done) | (simp_all [bd]; done) | grind [bd])
        · try dsimp only at hc24
          refine TC.seq ?_
          refine TC.region ?_
          refine TL.run1 (pure_move rfl) rfl ?_
          refine TL.run1 (pure_eql rfl rfl) rfl ?_
          refine TL.run1 (pure_move rfl) rfl ?_
          first | refine TL.splitP 39 rfl (fun hg39 => ?_) (fun hg39 => ?_) | refine TL.split 39 rfl (fun hg39 => ?_) (fun hg39 => ?_)
          · try dsimp only at hg39
            refine TL.runG rfl rfl (pure_move rfl) rfl ?_
            refine TL.runG rfl rfl (pure_eql rfl rfl) rfl ?_
            refine TL.run1 (pure_pick_true rfl rfl) rfl ?_
            refine TL.run1 (pure_move rfl) rfl ?_
            first | refine TL.splitP 43 rfl (fun hg43 => ?_) (fun hg43 => ?_) | refine TL.split 43 rfl (fun hg43 => ?_) (fun hg43 => ?_)
            · try dsimp only at hg43
              refine TL.runG rfl rfl (pure_move rfl) rfl ?_
              first | refine TL.runG rfl rfl (pure_nilCheck rfl) rfl ?_ | refine TL.runG rfl rfl (pure_nilCheck_own rfl) rfl ?_
              first | refine TL.runG rfl rfl (pure_fieldAddr Ty.f92_2 rfl (.succ (.succ (.zero _))) (List.cons_ne_nil _ _)) rfl ?_ | refine TL.runG rfl rfl (pure_fieldAddr_own Ty.f92_2 rfl) rfl ?_
              first | refine TL.runG rfl rfl (pure_load1 Ty.one4 rfl) rfl ?_ | refine TL.runG rfl rfl (pure_load1_own Ty.one4 rfl (by repeat (first | exact List.Mem.head _ | apply List.Mem.tail)) (by repeat (first | exact DropR.zero _ | apply DropR.succ))) rfl ?_
              refine TL.run1 (pure_pick_true rfl rfl) rfl ?_
              refine TL.run1 (pure_assign rfl) rfl ?_
              refine TL.nil' ?_
              first | refine TC.condD rfl (fun hc36 => ?_) (fun hc36 => ?_) | refine TC.condN rfl (fun hc36 => ?_) (fun hc36 => ?_) | refine TC.cond rfl (fun hc36 => ?_) (fun hc36 => ?_)
              · try dsimp only at hc36
                refine TC.seq ?_
                refine TC.region ?_
                refine TL.run1 (pure_assign rfl) rfl ?_
                refine TL.nil' ?_
                refine TC.ret ?_
                refine block_ret ?_
                refine then_ret ?_
                exact ret_boolK rfl (by first | (simp only [bd]; simp_all; done) | (simp_all [bd]; done) | grind [bd])
              · try dsimp only at hc36
                refine TC.seq ?_
                refine TC.region ?_
                refine TL.run1 (pure_move rfl) rfl ?_
                refine TL.run1 (pure_eql rfl rfl) rfl ?_
                refine TL.run1 (pure_move rfl) rfl ?_
                first | refine TL.splitP 52 rfl (fun hg52 => ?_) (fun hg52 => ?_) | refine TL.split 52 rfl (fun hg52 => ?_) (fun hg52 => ?_)
                · try dsimp only at hg52
                  refine TL.runG rfl rfl (pure_move rfl) rfl ?_
                  refine TL.runG rfl rfl (pure_eql rfl rfl) rfl ?_
                  refine TL.run1 (pure_pick_true rfl rfl) rfl ?_
                  refine TL.run1 (pure_move rfl) rfl ?_
                  first | refine TL.splitP 56 rfl (fun hg56 => ?_) (fun hg56 => ?_) | refine TL.split 56 rfl (fun hg56 => ?_) (fun hg56 => ?_)
                  · try dsimp only at hg56
                    refine TL.runG rfl rfl (pure_move rfl) rfl ?_
                    first | refine TL.runG rfl rfl (pure_nilCheck rfl) rfl ?_ | refine TL.runG rfl rfl (pure_nilCheck_own rfl) rfl ?_
                    first | refine TL.runG rfl rfl (pure_fieldAddr Ty.f92_3 rfl (.succ (.succ (.succ (.zero _)))) (List.cons_ne_nil _ _)) rfl ?_ | refine TL.runG rfl rfl (pure_fieldAddr_own Ty.f92_3 rfl) rfl ?_
                    first | refine TL.runG rfl rfl (pure_load1 Ty.one3 rfl) rfl ?_ | refine TL.runG rfl rfl (pure_load1_own Ty.one3 rfl (by repeat (first | exact List.Mem.head _ | apply List.Mem.tail)) (by repeat (first | exact DropR.zero _ | apply DropR.succ))) rfl ?_
                    refine TL.runG rfl rfl (pure_rem rfl rfl (by omega) (by omega)) rfl ?_
                    refine TL.runG rfl rfl (pure_eql rfl rfl) rfl ?_
                    refine TL.run1 (pure_pick_true rfl rfl) rfl ?_
                    refine TL.run1 (pure_assign rfl) rfl ?_
                    refine TL.nil' ?_
                    first | refine TC.condD rfl (fun hc49 => ?_) (fun hc49 => ?_) | refine TC.condN rfl (fun hc49 => ?_) (fun hc49 => ?_) | refine TC.cond rfl (fun hc49 => ?_) (fun hc49 => ?_)
                    · try dsimp only at hc49
                      refine TC.seq ?_
                      refine TC.region ?_
                      refine TL.run1 (pure_assign rfl) rfl ?_
                      refine TL.nil' ?_
                      refine TC.ret ?_
                      refine block_ret ?_
                      refine then_ret ?_
                      exact ret_boolK rfl (by first | (simp only [bd]; simp_all; done) | (simp_all [bd]; done) | grind [bd])
                    · try dsimp only at hc49
                      refine TC.skip ?_
                      refine block_normal ?_
                      refine then_normal ?_
                      refine TC.seq ?_
                      refine TC.region ?_
                      refine TL.run1 (pure_assign rfl) rfl ?_
                      refine TL.nil' ?_
                      refine TC.ret ?_
                      exact ret_boolK rfl (by first | (simp only [bd]; simp_all; done) | (simp_all [bd]; done) | grind [bd])
                  · try dsimp only at hg56
                    refine TL.passG rfl rfl rfl rfl ?_
                    refine TL.passG rfl rfl rfl rfl ?_
                    refine TL.passG rfl rfl rfl rfl ?_
                    refine TL.passG rfl rfl rfl rfl ?_
                    refine TL.passG rfl rfl rfl rfl ?_
                    refine TL.passG rfl rfl rfl rfl ?_
                    refine TL.run1 (pure_pick_false rfl rfl) rfl ?_
                    refine TL.run1 (pure_assign rfl) rfl ?_
                    refine TL.nil' ?_
                    first | refine TC.condD rfl (fun hc49 => ?_) (fun hc49 => ?_) | refine TC.condN rfl (fun hc49 => ?_) (fun hc49 => ?_) | refine TC.cond rfl (fun hc49 => ?_) (fun hc49 => ?_)
                    · try dsimp only at hc49
                      refine TC.seq ?_
                      refine TC.region ?_
                      refine TL.run1 (pure_assign rfl) rfl ?_
                      refine TL.nil' ?_
                      refine TC.ret ?_
                      refine block_ret ?_
                      refine then_ret ?_
                      exact ret_boolK rfl (by first | (simp only [bd]; simp_all; done) | (simp_all [bd]; done) | grind [bd])
                    · try dsimp only at hc49
                      refine TC.skip ?_
                      refine block_normal ?_
                      refine then_normal ?_
                      refine TC.seq ?_
                      refine TC.region ?_
                      refine TL.run1 (pure_assign rfl) rfl ?_
                      refine TL.nil' ?_
                      refine TC.ret ?_
                      exact ret_boolK rfl (by first | (simp only [bd]; simp_all; done) | (simp_all [bd]; done) | grind [bd])
                · try dsimp only at hg52
                  refine TL.passG rfl rfl rfl rfl ?_
                  refine TL.passG rfl rfl rfl rfl ?_
                  refine TL.run1 (pure_pick_false rfl rfl) rfl ?_
                  refine TL.run1 (pure_move rfl) rfl ?_
                  refine TL.passG rfl rfl rfl rfl ?_
                  refine TL.passG rfl rfl rfl rfl ?_
                  refine TL.passG rfl rfl rfl rfl ?_
                  refine TL.passG rfl rfl rfl rfl ?_
                  refine TL.passG rfl rfl rfl rfl ?_
                  refine TL.passG rfl rfl rfl rfl ?_
                  refine TL.run1 (pure_pick_false rfl rfl) rfl ?_
                  refine TL.run1 (pure_assign rfl) rfl ?_
                  refine TL.nil' ?_
                  first | refine TC.condD rfl (fun hc49 => ?_) (fun hc49 => ?_) | refine TC.condN rfl (fun hc49 => ?_) (fun hc49 => ?_) | refine TC.cond rfl (fun hc49 => ?_) (fun hc49 => ?_)
                  · try dsimp only at hc49
                    refine TC.seq ?_
                    refine TC.region ?_
                    refine TL.run1 (pure_assign rfl) rfl ?_
                    refine TL.nil' ?_
                    refine TC.ret ?_
                    refine block_ret ?_
                    refine then_ret ?_
                    exact ret_boolK rfl (by first | (simp only [bd]; simp_all; done) | (simp_all [bd]; done) | grind [bd])
                  · try dsimp only at hc49
                    refine TC.skip ?_
                    refine block_normal ?_
                    refine then_normal ?_
                    refine TC.seq ?_
                    refine TC.region ?_
                    refine TL.run1 (pure_assign rfl) rfl ?_
                    refine TL.nil' ?_
                    refine TC.ret ?_
                    exact ret_boolK rfl (by first | (simp only [bd]; simp_all; done) | (simp_all [bd]; done) | grind [bd])
            · try dsimp only at hg43
              refine TL.passG rfl rfl rfl rfl ?_
              refine TL.passG rfl rfl rfl rfl ?_
              refine TL.passG rfl rfl rfl rfl ?_
              refine TL.passG rfl rfl rfl rfl ?_
              refine TL.run1 (pure_pick_false rfl rfl) rfl ?_
              refine TL.run1 (pure_assign rfl) rfl ?_
              refine TL.nil' ?_
              first | refine TC.condD rfl (fun hc36 => ?_) (fun hc36 => ?_) | refine TC.condN rfl (fun hc36 => ?_) (fun hc36 => ?_) | refine TC.cond rfl (fun hc36 => ?_) (fun hc36 => ?_)
              · try dsimp only at hc36
                refine TC.seq ?_
                refine TC.region ?_
                refine TL.run1 (pure_assign rfl) rfl ?_
                refine TL.nil' ?_
                refine TC.ret ?_
                refine block_ret ?_
                refine then_ret ?_
                exact ret_boolK rfl (by first | (simp only [bd]; simp_all; done) | (simp_all [bd]; done) | grind [bd])
              · try dsimp only at hc36
                refine TC.seq ?_
                refine TC.region ?_
                refine TL.run1 (pure_move rfl) rfl ?_
                refine TL.run1 (pure_eql rfl rfl) rfl ?_
                refine TL.run1 (pure_move rfl) rfl ?_
                first | refine TL.splitP 52 rfl (fun hg52 => ?_) (fun hg52 => ?_) | refine TL.split 52 rfl (fun hg52 => ?_) (fun hg52 => ?_)
                · try dsimp only at hg52
                  refine TL.runG rfl rfl (pure_move rfl) rfl ?_
                  refine TL.runG rfl rfl (pure_eql rfl rfl) rfl ?_
                  refine TL.run1 (pure_pick_true rfl rfl) rfl ?_
                  refine TL.run1 (pure_move rfl) rfl ?_
                  first | refine TL.splitP 56 rfl (fun hg56 => ?_) (fun hg56 => ?_) | refine TL.split 56 rfl (fun hg56 => ?_) (fun hg56 => ?_)
                  · try dsimp only at hg56
                    refine TL.runG rfl rfl (pure_move rfl) rfl ?_
                    first | refine TL.runG rfl rfl (pure_nilCheck rfl) rfl ?_ | refine TL.runG rfl rfl (pure_nilCheck_own rfl) rfl ?_
                    first | refine TL.runG rfl rfl (pure_fieldAddr Ty.f92_3 rfl (.succ (.succ (.succ (.zero _)))) (List.cons_ne_nil _ _)) rfl ?_ | refine TL.runG rfl rfl (pure_fieldAddr_own Ty.f92_3 rfl) rfl ?_
                    first | refine TL.runG rfl rfl (pure_load1 Ty.one3 rfl) rfl ?_ | refine TL.runG rfl rfl (pure_load1_own Ty.one3 rfl (by repeat (first | exact List.Mem.head _ | apply List.Mem.tail)) (by repeat (first | exact DropR.zero _ | apply DropR.succ))) rfl ?_
                    refine TL.runG rfl rfl (pure_rem rfl rfl (by omega) (by omega)) rfl ?_
                    refine TL.runG rfl rfl (pure_eql rfl rfl) rfl ?_
                    refine TL.run1 (pure_pick_true rfl rfl) rfl ?_
                    refine TL.run1 (pure_assign rfl) rfl ?_
                    refine TL.nil' ?_
                    first | refine TC.condD rfl (fun hc49 => ?_) (fun hc49 => ?_) | refine TC.condN rfl (fun hc49 => ?_) (fun hc49 => ?_) | refine TC.cond rfl (fun hc49 => ?_) (fun hc49 => ?_)
                    · try dsimp only at hc49
                      refine TC.seq ?_
                      refine TC.region ?_
                      refine TL.run1 (pure_assign rfl) rfl ?_
                      refine TL.nil' ?_
                      refine TC.ret ?_
                      refine block_ret ?_
                      refine then_ret ?_
                      exact ret_boolK rfl (by first | (simp only [bd]; simp_all; done) | (simp_all [bd]; done) | grind [bd])
                    · try dsimp only at hc49
                      refine TC.skip ?_
                      refine block_normal ?_
                      refine then_normal ?_
                      refine TC.seq ?_
                      refine TC.region ?_
                      refine TL.run1 (pure_assign rfl) rfl ?_
                      refine TL.nil' ?_
                      refine TC.ret ?_
                      exact ret_boolK rfl (by first | (simp only [bd]; simp_all; done) | (simp_all [bd]; done) | grind [bd])
                  · try dsimp only at hg56
                    refine TL.passG rfl rfl rfl rfl ?_
                    refine TL.passG rfl rfl rfl rfl ?_
                    refine TL.passG rfl rfl rfl rfl ?_
                    refine TL.passG rfl rfl rfl rfl ?_
                    refine TL.passG rfl rfl rfl rfl ?_
                    refine TL.passG rfl rfl rfl rfl ?_
                    refine TL.run1 (pure_pick_false rfl rfl) rfl ?_
                    refine TL.run1 (pure_assign rfl) rfl ?_
                    refine TL.nil' ?_
                    first | refine TC.condD rfl (fun hc49 => ?_) (fun hc49 => ?_) | refine TC.condN rfl (fun hc49 => ?_) (fun hc49 => ?_) | refine TC.cond rfl (fun hc49 => ?_) (fun hc49 => ?_)
                    · try dsimp only at hc49
                      refine TC.seq ?_
                      refine TC.region ?_
                      refine TL.run1 (pure_assign rfl) rfl ?_
                      refine TL.nil' ?_
                      refine TC.ret ?_
                      refine block_ret ?_
                      refine then_ret ?_
                      exact ret_boolK rfl (by first | (simp only [bd]; simp_all; done) | (simp_all [bd]; done) | grind [bd])
                    · try dsimp only at hc49
                      refine TC.skip ?_
                      refine block_normal ?_
                      refine then_normal ?_
                      refine TC.seq ?_
                      refine TC.region ?_
                      refine TL.run1 (pure_assign rfl) rfl ?_
                      refine TL.nil' ?_
                      refine TC.ret ?_
                      exact ret_boolK rfl (by first | (simp only [bd]; simp_all; done) | (simp_all [bd]; done) | grind [bd])
                · try dsimp only at hg52
                  refine TL.passG rfl rfl rfl rfl ?_
                  refine TL.passG rfl rfl rfl rfl ?_
                  refine TL.run1 (pure_pick_false rfl rfl) rfl ?_
                  refine TL.run1 (pure_move rfl) rfl ?_
                  refine TL.passG rfl rfl rfl rfl ?_
                  refine TL.passG rfl rfl rfl rfl ?_
                  refine TL.passG rfl rfl rfl rfl ?_
                  refine TL.passG rfl rfl rfl rfl ?_
                  refine TL.passG rfl rfl rfl rfl ?_
                  refine TL.passG rfl rfl rfl rfl ?_
                  refine TL.run1 (pure_pick_false rfl rfl) rfl ?_
                  refine TL.run1 (pure_assign rfl) rfl ?_
                  refine TL.nil' ?_
                  first | refine TC.condD rfl (fun hc49 => ?_) (fun hc49 => ?_) | refine TC.condN rfl (fun hc49 => ?_) (fun hc49 => ?_) | refine TC.cond rfl (fun hc49 => ?_) (fun hc49 => ?_)
                  · try dsimp only at hc49
                    refine TC.seq ?_
                    refine TC.region ?_
                    refine TL.run1 (pure_assign rfl) rfl ?_
                    refine TL.nil' ?_
                    refine TC.ret ?_
                    refine block_ret ?_
                    refine then_ret ?_
                    exact ret_boolK rfl (by first | (simp only [bd]; simp_all; done) | (simp_all [bd]; done) | grind [bd])
                  · try dsimp only at hc49
                    refine TC.skip ?_
                    refine block_normal ?_
                    refine then_normal ?_
                    refine TC.seq ?_
                    refine TC.region ?_
                    refine TL.run1 (pure_assign rfl) rfl ?_
                    refine TL.nil' ?_
                    refine TC.ret ?_
                    exact ret_boolK rfl (by first | (simp only [bd]; simp_all; done) | (simp_all [bd]; done) | grind [bd])
          · try dsimp only at hg39
            refine TL.passG rfl rfl rfl rfl ?_
            refine TL.passG rfl rfl rfl rfl ?_
            refine TL.run1 (pure_pick_false rfl rfl) rfl ?_
            refine TL.run1 (pure_move rfl) rfl ?_
            refine TL.passG rfl rfl rfl rfl ?_
            refine TL.passG rfl rfl rfl rfl ?_
            refine TL.passG rfl rfl rfl rfl ?_
            refine TL.passG rfl rfl rfl rfl ?_
            refine TL.run1 (pure_pick_false rfl rfl) rfl ?_
            refine TL.run1 (pure_assign rfl) rfl ?_
            refine TL.nil' ?_
            first | refine TC.condD rfl (fun hc36 => ?_) (fun hc36 => ?_) | refine TC.condN rfl (fun hc36 => ?_) (fun hc36 => ?_) | refine TC.cond rfl (fun hc36 => ?_) (fun hc36 => ?_)
            · try dsimp only at hc36
              refine TC.seq ?_
              refine TC.region ?_
              refine TL.run1 (pure_assign rfl) rfl ?_
              refine TL.nil' ?_
              refine TC.ret ?_
              refine block_ret ?_
              refine then_ret ?_
              exact ret_boolK rfl (by first | (simp only [bd]; simp_all; done) | (simp_all [bd]; done) | grind [bd])
            · try dsimp only at hc36
              refine TC.seq ?_
              refine TC.region ?_
              refine TL.run1 (pure_move rfl) rfl ?_
              refine TL.run1 (pure_eql rfl rfl) rfl ?_
              refine TL.run1 (pure_move rfl) rfl ?_
              first | refine TL.splitP 52 rfl (fun hg52 => ?_) (fun hg52 => ?_) | refine TL.split 52 rfl (fun hg52 => ?_) (fun hg52 => ?_)
              · try dsimp only at hg52
                refine TL.runG rfl rfl (pure_move rfl) rfl ?_
                refine TL.runG rfl rfl (pure_eql rfl rfl) rfl ?_
                refine TL.run1 (pure_pick_true rfl rfl) rfl ?_
                refine TL.run1 (pure_move rfl) rfl ?_
                first | refine TL.splitP 56 rfl (fun hg56 => ?_) (fun hg56 => ?_) | refine TL.split 56 rfl (fun hg56 => ?_) (fun hg56 => ?_)
                · try dsimp only at hg56
                  refine TL.runG rfl rfl (pure_move rfl) rfl ?_
                  first | refine TL.runG rfl rfl (pure_nilCheck rfl) rfl ?_ | refine TL.runG rfl rfl (pure_nilCheck_own rfl) rfl ?_
                  first | refine TL.runG rfl rfl (pure_fieldAddr Ty.f92_3 rfl (.succ (.succ (.succ (.zero _)))) (List.cons_ne_nil _ _)) rfl ?_ | refine TL.runG rfl rfl (pure_fieldAddr_own Ty.f92_3 rfl) rfl ?_
                  first | refine TL.runG rfl rfl (pure_load1 Ty.one3 rfl) rfl ?_ | refine TL.runG rfl rfl (pure_load1_own Ty.one3 rfl (by repeat (first | exact List.Mem.head _ | apply List.Mem.tail)) (by repeat (first | exact DropR.zero _ | apply DropR.succ))) rfl ?_
                  refine TL.runG rfl rfl (pure_rem rfl rfl (by omega) (by omega)) rfl ?_
                  refine TL.runG rfl rfl (pure_eql rfl rfl) rfl ?_
                  refine TL.run1 (pure_pick_true rfl rfl) rfl ?_
                  refine TL.run1 (pure_assign rfl) rfl ?_
                  refine TL.nil' ?_
                  first | refine TC.condD rfl (fun hc49 => ?_) (fun hc49 => ?_) | refine TC.condN rfl (fun hc49 => ?_) (fun hc49 => ?_) | refine TC.cond rfl (fun hc49 => ?_) (fun hc49 => ?_)
                  · try dsimp only at hc49
                    refine TC.seq ?_
                    refine TC.region ?_
                    refine TL.run1 (pure_assign rfl) rfl ?_
                    refine TL.nil' ?_
                    refine TC.ret ?_
                    refine block_ret ?_
                    refine then_ret ?_
                    exact ret_boolK rfl (by first | (simp only [bd]; simp_all; done) | (simp_all [bd]; done) | grind [bd])
                  · try dsimp only at hc49
                    refine TC.skip ?_
                    refine block_normal ?_
                    refine then_normal ?_
                    refine TC.seq ?_
                    refine TC.region ?_
                    refine TL.run1 (pure_assign rfl) rfl ?_
                    refine TL.nil' ?_
                    refine TC.ret ?_
                    exact ret_boolK rfl (by first | (simp only [bd]; simp_all; done) | (simp_all [bd]; done) | grind [bd])
                · try dsimp only at hg56
                  refine TL.passG rfl rfl rfl rfl ?_
                  refine TL.passG rfl rfl rfl rfl ?_
                  refine TL.passG rfl rfl rfl rfl ?_
                  refine TL.passG rfl rfl rfl rfl ?_
                  refine TL.passG rfl rfl rfl rfl ?_
                  refine TL.passG rfl rfl rfl rfl ?_
                  refine TL.run1 (pure_pick_false rfl rfl) rfl ?_
                  refine TL.run1 (pure_assign rfl) rfl ?_
                  refine TL.nil' ?_
                  first | refine TC.condD rfl (fun hc49 => ?_) (fun hc49 => ?_) | refine TC.condN rfl (fun hc49 => ?_) (fun hc49 => ?_) | refine TC.cond rfl (fun hc49 => ?_) (fun hc49 => ?_)
                  · try dsimp only at hc49
                    refine TC.seq ?_
                    refine TC.region ?_
                    refine TL.run1 (pure_assign rfl) rfl ?_
                    refine TL.nil' ?_
                    refine TC.ret ?_
                    refine block_ret ?_
                    refine then_ret ?_
                    exact ret_boolK rfl (by first | (simp only [bd]; simp_all; done) | (simp_all [bd]; done) | grind [bd])
                  · try dsimp only at hc49
                    refine TC.skip ?_
                    refine block_normal ?_
                    refine then_normal ?_
                    refine TC.seq ?_
                    refine TC.region ?_
                    refine TL.run1 (pure_assign rfl) rfl ?_
                    refine TL.nil' ?_
                    refine TC.ret ?_
                    exact ret_boolK rfl (by first | (simp only [bd]; simp_all; done) | (simp_all [bd]; done) | grind [bd])
              · try dsimp only at hg52
                refine TL.passG rfl rfl rfl rfl ?_
                refine TL.passG rfl rfl rfl rfl ?_
                refine TL.run1 (pure_pick_false rfl rfl) rfl ?_
                refine TL.run1 (pure_move rfl) rfl ?_
                refine TL.passG rfl rfl rfl rfl ?_
                refine TL.passG rfl rfl rfl rfl ?_
                refine TL.passG rfl rfl rfl rfl ?_
                refine TL.passG rfl rfl rfl rfl ?_
                refine TL.passG rfl rfl rfl rfl ?_
                refine TL.passG rfl rfl rfl rfl ?_
                refine TL.run1 (pure_pick_false rfl rfl) rfl ?_
                refine TL.run1 (pure_assign rfl) rfl ?_
                refine TL.nil' ?_
                first | refine TC.condD rfl (fun hc49 => ?_) (fun hc49 => ?_) | refine TC.condN rfl (fun hc49 => ?_) (fun hc49 => ?_) | refine TC.cond rfl (fun hc49 => ?_) (fun hc49 => ?_)
                · try dsimp only at hc49
                  refine TC.seq ?_
                  refine TC.region ?_
                  refine TL.run1 (pure_assign rfl) rfl ?_
                  refine TL.nil' ?_
                  refine TC.ret ?_
                  refine block_ret ?_
                  refine then_ret ?_
                  exact ret_boolK rfl (by first | (simp only [bd]; simp_all; done) | (simp_all [bd]; done) | grind [bd])
                · try dsimp only at hc49
                  refine TC.skip ?_
                  refine block_normal ?_
                  refine then_normal ?_
                  refine TC.seq ?_
                  refine TC.region ?_
                  refine TL.run1 (pure_assign rfl) rfl ?_
                  refine TL.nil' ?_
                  refine TC.ret ?_
                  exact ret_boolK rfl (by first | (simp only [bd]; simp_all; done) | (simp_all [bd]; done) | grind [bd])
      · try dsimp only at hc24
        refine TC.seq ?_
        refine TC.region ?_
        refine TL.run1 (pure_move rfl) rfl ?_
        refine TL.run1 (pure_eql rfl rfl) rfl ?_
        refine TL.run1 (pure_assign rfl) rfl ?_
        refine TL.nil' ?_
        first | refine TC.condD rfl (fun hc24 => ?_) (fun hc24 => ?_) | refine TC.condN rfl (fun hc24 => ?_) (fun hc24 => ?_) | refine TC.cond rfl (fun hc24 => ?_) (fun hc24 => ?_)
        · try dsimp only at hc24
          refine TC.skip' ?_
          first | refine TC.condD rfl (fun hc24 => ?_) (fun hc24 => ?_) | refine TC.condN rfl (fun hc24 => ?_) (fun hc24 => ?_) | refine TC.cond rfl (fun hc24 => ?_) (fun hc24 => ?_)
          · try dsimp only at hc24
            refine TC.seq ?_
            refine TC.region ?_
            refine TL.run1 (pure_assign rfl) rfl ?_
            refine TL.nil' ?_
            refine TC.ret ?_
            refine block_ret ?_
            refine then_ret ?_
            exact ret_boolK rfl (by first | (simp only [bd]; simp_all; done) | (simp_all [bd]; done) | grind [bd])
          · try dsimp only at hc24
            refine TC.seq ?_
            refine TC.region ?_
            refine TL.run1 (pure_move rfl) rfl ?_
            refine TL.run1 (pure_eql rfl rfl) rfl ?_
            refine TL.run1 (pure_move rfl) rfl ?_
            first | refine TL.splitP 39 rfl (fun hg39 => ?_) (fun hg39 => ?_) | refine TL.split 39 rfl (fun hg39 => ?_) (fun hg39 => ?_)
            · try dsimp only at hg39
              refine TL.runG rfl rfl (pure_move rfl) rfl ?_
              refine TL.runG rfl rfl (pure_eql rfl rfl) rfl ?_
              refine TL.run1 (pure_pick_true rfl rfl) rfl ?_
              refine TL.run1 (pure_move rfl) rfl ?_
              first | refine TL.splitP 43 rfl (fun hg43 => ?_) (fun hg43 => ?_) | refine TL.split 43 rfl (fun hg43 => ?_) (fun hg43 => ?_)
              · try dsimp only at hg43
                refine TL.runG rfl rfl (pure_move rfl) rfl ?_
                first | refine TL.runG rfl rfl (pure_nilCheck rfl) rfl ?_ | refine TL.runG rfl rfl (pure_nilCheck_own rfl) rfl ?_
                first | refine TL.runG rfl rfl (pure_fieldAddr Ty.f92_2 rfl (.succ (.succ (.zero _))) (List.cons_ne_nil _ _)) rfl ?_ | refine TL.runG rfl rfl (pure_fieldAddr_own Ty.f92_2 rfl) rfl ?_
                first | refine TL.runG rfl rfl (pure_load1 Ty.one4 rfl) rfl ?_ | refine TL.runG rfl rfl (pure_load1_own Ty.one4 rfl (by repeat (first | exact List.Mem.head _ | apply List.Mem.tail)) (by repeat (first | exact DropR.zero _ | apply DropR.succ))) rfl ?_
                refine TL.run1 (pure_pick_true rfl rfl) rfl ?_
                refine TL.run1 (pure_assign rfl) rfl ?_
                refine TL.nil' ?_
                first | refine TC.condD rfl (fun hc36 => ?_) (fun hc36 => ?_) | refine TC.condN rfl (fun hc36 => ?_) (fun hc36 => ?_) | refine TC.cond rfl (fun hc36 => ?_) (fun hc36 => ?_)
                · try dsimp only at hc36
                  refine TC.seq ?_
                  refine TC.region ?_
                  refine TL.run1 (pure_assign rfl) rfl ?_
                  refine TL.nil' ?_
                  refine TC.ret ?_
                  refine block_ret ?_
                  refine then_ret ?_
                  exact ret_boolK rfl (by first | (simp only [bd]; simp_all; done) | (simp_all [bd]; done) | grind [bd])
                · try dsimp only at hc36
                  refine TC.seq ?_
                  refine TC.region ?_
                  refine TL.run1 (pure_move rfl) rfl ?_
                  refine TL.run1 (pure_eql rfl rfl) rfl ?_
                  refine TL.run1 (pure_move rfl) rfl ?_
                  first | refine TL.splitP 52 rfl (fun hg52 => ?_) (fun hg52 => ?_) | refine TL.split 52 rfl (fun hg52 => ?_) (fun hg52 => ?_)
                  · try dsimp only at hg52
                    refine TL.runG rfl rfl (pure_move rfl) rfl ?_
                    refine TL.runG rfl rfl (pure_eql rfl rfl) rfl ?_
                    refine TL.run1 (pure_pick_true rfl rfl) rfl ?_
                    refine TL.run1 (pure_move rfl) rfl ?_
                    first | refine TL.splitP 56 rfl (fun hg56 => ?_) (fun hg56 => ?_) | refine TL.split 56 rfl (fun hg56 => ?_) (fun hg56 => ?_)
                    · try dsimp only at hg56
                      refine TL.runG rfl rfl (pure_move rfl) rfl ?_
                      first | refine TL.runG rfl rfl (pure_nilCheck rfl) rfl ?_ | refine TL.runG rfl rfl (pure_nilCheck_own rfl) rfl ?_
                      first | refine TL.runG rfl rfl (pure_fieldAddr Ty.f92_3 rfl (.succ (.succ (.succ (.zero _)))) (List.cons_ne_nil _ _)) rfl ?_ | refine TL.runG rfl rfl (pure_fieldAddr_own Ty.f92_3 rfl) rfl ?_
                      first | refine TL.runG rfl rfl (pure_load1 Ty.one3 rfl) rfl ?_ | refine TL.runG rfl rfl (pure_load1_own Ty.one3 rfl (by repeat (first | exact List.Mem.head _ | apply List.Mem.tail)) (by repeat (first | exact DropR.zero _ | apply DropR.succ))) rfl ?_
                      refine TL.runG rfl rfl (pure_rem rfl rfl (by omega) (by omega)) rfl ?_
                      refine TL.runG rfl rfl (pure_eql rfl rfl) rfl ?_
                      refine TL.run1 (pure_pick_true rfl rfl) rfl ?_
                      refine TL.run1 (pure_assign rfl) rfl ?_
                      refine TL.nil' ?_
                      first | refine TC.condD rfl (fun hc49 => ?_) (fun hc49 => ?_) | refine TC.condN rfl (fun hc49 => ?_) (fun hc49 => ?_) | refine TC.cond rfl (fun hc49 => ?_) (fun hc49 => ?_)
                      · try dsimp only at hc49
                        refine TC.seq ?_
                        refine TC.region ?_
                        refine TL.run1 (pure_assign rfl) rfl ?_
                        refine TL.nil' ?_
                        refine TC.ret ?_
                        refine block_ret ?_
                        refine then_ret ?_
                        exact ret_boolK rfl (by first | (simp only [bd]; simp_all; done) | (simp_all [bd]; done) | grind [bd])
                      · try dsimp only at hc49
                        refine TC.skip ?_
                        refine block_normal ?_
                        refine then_normal ?_
                        refine TC.seq ?_
                        refine TC.region ?_
                        refine TL.run1 (pure_assign rfl) rfl ?_
                        refine TL.nil' ?_
                        refine TC.ret ?_
                        exact ret_boolK rfl (by first | (simp only [bd]; simp_all; done) | (simp_all [bd]; done) | grind [bd])
                    · try dsimp only at hg56
                      refine TL.passG rfl rfl rfl rfl ?_
                      refine TL.passG rfl rfl rfl rfl ?_
                      refine TL.passG rfl rfl rfl rfl ?_
                      refine TL.passG rfl rfl rfl rfl ?_
                      refine TL.passG rfl rfl rfl rfl ?_
                      refine TL.passG rfl rfl rfl rfl ?_
                      refine TL.run1 (pure_pick_false rfl rfl) rfl ?_
                      refine TL.run1 (pure_assign rfl) rfl ?_
                      refine TL.nil' ?_
                      first | refine TC.condD rfl (fun hc49 => ?_) (fun hc49 => ?_) | refine TC.condN rfl (fun hc49 => ?_) (fun hc49 => ?_) | refine TC.cond rfl (fun hc49 => ?_) (fun hc49 => ?_)
                      · try dsimp only at hc49
                        refine TC.seq ?_
                        refine TC.region ?_
                        refine TL.run1 (pure_assign rfl) rfl ?_
                        refine TL.nil' ?_
                        refine TC.ret ?_
                        refine block_ret ?_
                        refine then_ret ?_
                        exact ret_boolK rfl (by first | (simp only [bd]; simp_all; done) | (simp_all [bd]; done) | grind [bd])
                      · try dsimp only at hc49
                        refine TC.skip ?_
                        refine block_normal ?_
                        refine then_normal ?_
                        refine TC.seq ?_
                        refine TC.region ?_
                        refine TL.run1 (pure_assign rfl) rfl ?_
                        refine TL.nil' ?_
                        refine TC.ret ?_
                        exact ret_boolK rfl (by first | (simp only [bd]; simp_all; done) | (simp_all [bd]; done) | grind [bd])
                  · try dsimp only at hg52
                    refine TL.passG rfl rfl rfl rfl ?_
                    refine TL.passG rfl rfl rfl rfl ?_
                    refine TL.run1 (pure_pick_false rfl rfl) rfl ?_
                    refine TL.run1 (pure_move rfl) rfl ?_
                    refine TL.passG rfl rfl rfl rfl ?_
                    refine TL.passG rfl rfl rfl rfl ?_
                    refine TL.passG rfl rfl rfl rfl ?_
                    refine TL.passG rfl rfl rfl rfl ?_
                    refine TL.passG rfl rfl rfl rfl ?_
                    refine TL.passG rfl rfl rfl rfl ?_
                    refine TL.run1 (pure_pick_false rfl rfl) rfl ?_
                    refine TL.run1 (pure_assign rfl) rfl ?_
                    refine TL.nil' ?_
                    first | refine TC.condD rfl (fun hc49 => ?_) (fun hc49 => ?_) | refine TC.condN rfl (fun hc49 => ?_) (fun hc49 => ?_) | refine TC.cond rfl (fun hc49 => ?_) (fun hc49 => ?_)
                    · try dsimp only at hc49
                      refine TC.seq ?_
                      refine TC.region ?_
                      refine TL.run1 (pure_assign rfl) rfl ?_
                      refine TL.nil' ?_
                      refine TC.ret ?_
                      refine block_ret ?_
                      refine then_ret ?_
                      exact ret_boolK rfl (by first | (simp only [bd]; simp_all; done) | (simp_all [bd]; done) | grind [bd])
                    · try dsimp only at hc49
                      refine TC.skip ?_
                      refine block_normal ?_
                      refine then_normal ?_
                      refine TC.seq ?_
                      refine TC.region ?_
                      refine TL.run1 (pure_assign rfl) rfl ?_
                      refine TL.nil' ?_
                      refine TC.ret ?_
                      exact ret_boolK rfl (by first | (simp only [bd]; simp_all; done) | (simp_all [bd]; done) | grind [bd])
              · try dsimp only at hg43
                refine TL.passG rfl rfl rfl rfl ?_
                refine TL.passG rfl rfl rfl rfl ?_
                refine TL.passG rfl rfl rfl rfl ?_
                refine TL.passG rfl rfl rfl rfl ?_
                refine TL.run1 (pure_pick_false rfl rfl) rfl ?_
                refine TL.run1 (pure_assign rfl) rfl ?_
                refine TL.nil' ?_
                first | refine TC.condD rfl (fun hc36 => ?_) (fun hc36 => ?_) | refine TC.condN rfl (fun hc36 => ?_) (fun hc36 => ?_) | refine TC.cond rfl (fun hc36 => ?_) (fun hc36 => ?_)
                · try dsimp only at hc36
                  refine TC.seq ?_
                  refine TC.region ?_
                  refine TL.run1 (pure_assign rfl) rfl ?_
                  refine TL.nil' ?_
                  refine TC.ret ?_
                  refine block_ret ?_
                  refine then_ret ?_
                  exact ret_boolK rfl (by first | (simp only [bd]; simp_all; done) | (simp_all [bd]; done) | grind [bd])
                · try dsimp only at hc36
                  refine TC.seq ?_
                  refine TC.region ?_
                  refine TL.run1 (pure_move rfl) rfl ?_
                  refine TL.run1 (pure_eql rfl rfl) rfl ?_
                  refine TL.run1 (pure_move rfl) rfl ?_
                  first | refine TL.splitP 52 rfl (fun hg52 => ?_) (fun hg52 => ?_) | refine TL.split 52 rfl (fun hg52 => ?_) (fun hg52 => ?_)
                  · try dsimp only at hg52
                    refine TL.runG rfl rfl (pure_move rfl) rfl ?_
                    refine TL.runG rfl rfl (pure_eql rfl rfl) rfl ?_
                    refine TL.run1 (pure_pick_true rfl rfl) rfl ?_
                    refine TL.run1 (pure_move rfl) rfl ?_
                    first | refine TL.splitP 56 rfl (fun hg56 => ?_) (fun hg56 => ?_) | refine TL.split 56 rfl (fun hg56 => ?_) (fun hg56 => ?_)
                    · try dsimp only at hg56
                      refine TL.runG rfl rfl (pure_move rfl) rfl ?_
                      first | refine TL.runG rfl rfl (pure_nilCheck rfl) rfl ?_ | refine TL.runG rfl rfl (pure_nilCheck_own rfl) rfl ?_
                      first | refine TL.runG rfl rfl (pure_fieldAddr Ty.f92_3 rfl (.succ (.succ (.succ (.zero _)))) (List.cons_ne_nil _ _)) rfl ?_ | refine TL.runG rfl rfl (pure_fieldAddr_own Ty.f92_3 rfl) rfl ?_
                      first | refine TL.runG rfl rfl (pure_load1 Ty.one3 rfl) rfl ?_ | refine TL.runG rfl rfl (pure_load1_own Ty.one3 rfl (by repeat (first | exact List.Mem.head _ | apply List.Mem.tail)) (by repeat (first | exact DropR.zero _ | apply DropR.succ))) rfl ?_
                      refine TL.runG rfl rfl (pure_rem rfl rfl (by omega) (by omega)) rfl ?_
                      refine TL.runG rfl rfl (pure_eql rfl rfl) rfl ?_
                      refine TL.run1 (pure_pick_true rfl rfl) rfl ?_
                      refine TL.run1 (pure_assign rfl) rfl ?_
                      refine TL.nil' ?_
                      first | refine TC.condD rfl (fun hc49 => ?_) (fun hc49 => ?_) | refine TC.condN rfl (fun hc49 => ?_) (fun hc49 => ?_) | refine TC.cond rfl (fun hc49 => ?_) (fun hc49 => ?_)
                      · try dsimp only at hc49
                        refine TC.seq ?_
                        refine TC.region ?_
                        refine TL.run1 (pure_assign rfl) rfl ?_
                        refine TL.nil' ?_
                        refine TC.ret ?_
                        refine block_ret ?_
                        refine then_ret ?_
                        exact ret_boolK rfl (by first | (simp only [bd]; simp_all; done) | (simp_all [bd]; done) | grind [bd])
                      · try dsimp only at hc49
                        refine TC.skip ?_
                        refine block_normal ?_
                        refine then_normal ?_
                        refine TC.seq ?_
                        refine TC.region ?_
                        refine TL.run1 (pure_assign rfl) rfl ?_
                        refine TL.nil' ?_
                        refine TC.ret ?_
                        exact ret_boolK rfl (by first | (simp only [bd]; simp_all; done) | (simp_all [bd]; done) | grind [bd])
                    · try dsimp only at hg56
                      refine TL.passG rfl rfl rfl rfl ?_
                      refine TL.passG rfl rfl rfl rfl ?_
                      refine TL.passG rfl rfl rfl rfl ?_
                      refine TL.passG rfl rfl rfl rfl ?_
                      refine TL.passG rfl rfl rfl rfl ?_
                      refine TL.passG rfl rfl rfl rfl ?_
                      refine TL.run1 (pure_pick_false rfl rfl) rfl ?_
                      refine TL.run1 (pure_assign rfl) rfl ?_
                      refine TL.nil' ?_
                      first | refine TC.condD rfl (fun hc49 => ?_) (fun hc49 => ?_) | refine TC.condN rfl (fun hc49 => ?_) (fun hc49 => ?_) | refine TC.cond rfl (fun hc49 => ?_) (fun hc49 => ?_)
                      · try dsimp only at hc49
                        refine TC.seq ?_
                        refine TC.region ?_
                        refine TL.run1 (pure_assign rfl) rfl ?_
                        refine TL.nil' ?_
                        refine TC.ret ?_
                        refine block_ret ?_
                        refine then_ret ?_
                        exact ret_boolK rfl (by first | (simp only [bd]; simp_all; done) | (simp_all [bd]; done) | grind [bd])
                      · try dsimp only at hc49
                        refine TC.skip ?_
                        refine block_normal ?_
                        refine then_normal ?_
                        refine TC.seq ?_
                        refine TC.region ?_
                        refine TL.run1 (pure_assign rfl) rfl ?_
                        refine TL.nil' ?_
                        refine TC.ret ?_
                        exact ret_boolK rfl (by first | (simp only [bd]; simp_all; done) | (simp_all [bd]; done) | grind [bd])
                  · try dsimp only at hg52
                    refine TL.passG rfl rfl rfl rfl ?_
                    refine TL.passG rfl rfl rfl rfl ?_
                    refine TL.run1 (pure_pick_false rfl rfl) rfl ?_
                    refine TL.run1 (pure_move rfl) rfl ?_
                    refine TL.passG rfl rfl rfl rfl ?_
                    refine TL.passG rfl rfl rfl rfl ?_
                    refine TL.passG rfl rfl rfl rfl ?_
                    refine TL.passG rfl rfl rfl rfl ?_
                    refine TL.passG rfl rfl rfl rfl ?_
                    refine TL.passG rfl rfl rfl rfl ?_
                    refine TL.run1 (pure_pick_false rfl rfl) rfl ?_
                    refine TL.run1 (pure_assign rfl) rfl ?_
                    refine TL.nil' ?_
                    first | refine TC.condD rfl (fun hc49 => ?_) (fun hc49 => ?_) | refine TC.condN rfl (fun hc49 => ?_) (fun hc49 => ?_) | refine TC.cond rfl (fun hc49 => ?_) (fun hc49 => ?_)
                    · try dsimp only at hc49
                      refine TC.seq ?_
                      refine TC.region ?_
                      refine TL.run1 (pure_assign rfl) rfl ?_
                      refine TL.nil' ?_
                      refine TC.ret ?_
                      refine block_ret ?_
                      refine then_ret ?_
                      exact ret_boolK rfl (by first | (simp only [bd]; simp_all; done) | (simp_all [bd]; done) | grind [bd])
                    · try dsimp only at hc49
                      refine TC.skip ?_
                      refine block_normal ?_
                      refine then_normal ?_
                      refine TC.seq ?_
                      refine TC.region ?_
                      refine TL.run1 (pure_assign rfl) rfl ?_
                      refine TL.nil' ?_
                      refine TC.ret ?_
                      exact ret_boolK rfl (by first | (simp only [bd]; simp_all; done) | (simp_all [bd]; done) | grind [bd])
            · try dsimp only at hg39
              refine TL.passG rfl rfl rfl rfl ?_
              refine TL.passG rfl rfl rfl rfl ?_
              refine TL.run1 (pure_pick_false rfl rfl) rfl ?_
              refine TL.run1 (pure_move rfl) rfl ?_
              refine TL.passG rfl rfl rfl rfl ?_
              refine TL.passG rfl rfl rfl rfl ?_
              refine TL.passG rfl rfl rfl rfl ?_
              refine TL.passG rfl rfl rfl rfl ?_
              refine TL.run1 (pure_pick_false rfl rfl) rfl ?_
              refine TL.run1 (pure_assign rfl) rfl ?_
              refine TL.nil' ?_
              first | refine TC.condD rfl (fun hc36 => ?_) (fun hc36 => ?_) | refine TC.condN rfl (fun hc36 => ?_) (fun hc36 => ?_) | refine TC.cond rfl (fun hc36 => ?_) (fun hc36 => ?_)
              · try dsimp only at hc36
                refine TC.seq ?_
                refine TC.region ?_
                refine TL.run1 (pure_assign rfl) rfl ?_
                refine TL.nil' ?_
                refine TC.ret ?_
                refine block_ret ?_
                refine then_ret ?_
                exact ret_boolK rfl (by first | (simp only [bd]; simp_all; done) | (simp_all [bd]; done) | grind [bd])
              · try dsimp only at hc36
                refine TC.seq ?_
                refine TC.region ?_
                refine TL.run1 (pure_move rfl) rfl ?_
                refine TL.run1 (pure_eql rfl rfl) rfl ?_
                refine TL.run1 (pure_move rfl) rfl ?_
                first | refine TL.splitP 52 rfl (fun hg52 => ?_) (fun hg52 => ?_) | refine TL.split 52 rfl (fun hg52 => ?_) (fun hg52 => ?_)
                · try dsimp only at hg52
                  refine TL.runG rfl rfl (pure_move rfl) rfl ?_
                  refine TL.runG rfl rfl (pure_eql rfl rfl) rfl ?_
                  refine TL.run1 (pure_pick_true rfl rfl) rfl ?_
                  refine TL.run1 (pure_move rfl) rfl ?_
                  first | refine TL.splitP 56 rfl (fun hg56 => ?_) (fun hg56 => ?_) | refine TL.split 56 rfl (fun hg56 => ?_) (fun hg56 => ?_)
                  · try dsimp only at hg56
                    refine TL.runG rfl rfl (pure_move rfl) rfl ?_
                    first | refine TL.runG rfl rfl (pure_nilCheck rfl) rfl ?_ | refine TL.runG rfl rfl (pure_nilCheck_own rfl) rfl ?_
                    first | refine TL.runG rfl rfl (pure_fieldAddr Ty.f92_3 rfl (.succ (.succ (.succ (.zero _)))) (List.cons_ne_nil _ _)) rfl ?_ | refine TL.runG rfl rfl (pure_fieldAddr_own Ty.f92_3 rfl) rfl ?_
                    first | refine TL.runG rfl rfl (pure_load1 Ty.one3 rfl) rfl ?_ | refine TL.runG rfl rfl (pure_load1_own Ty.one3 rfl (by repeat (first | exact List.Mem.head _ | apply List.Mem.tail)) (by repeat (first | exact DropR.zero _ | apply DropR.succ))) rfl ?_
                    refine TL.runG rfl rfl (pure_rem rfl rfl (by omega) (by omega)) rfl ?_
                    refine TL.runG rfl rfl (pure_eql rfl rfl) rfl ?_
                    refine TL.run1 (pure_pick_true rfl rfl) rfl ?_
                    refine TL.run1 (pure_assign rfl) rfl ?_
                    refine TL.nil' ?_
                    first | refine TC.condD rfl (fun hc49 => ?_) (fun hc49 => ?_) | refine TC.condN rfl (fun hc49 => ?_) (fun hc49 => ?_) | refine TC.cond rfl (fun hc49 => ?_) (fun hc49 => ?_)
                    · try dsimp only at hc49
                      refine TC.seq ?_
                      refine TC.region ?_
                      refine TL.run1 (pure_assign rfl) rfl ?_
                      refine TL.nil' ?_
                      refine TC.ret ?_
                      refine block_ret ?_
                      refine then_ret ?_
                      exact ret_boolK rfl (by first | (simp only [bd]; simp_all; done) | (simp_all [bd]; done) | grind [bd])
                    · try dsimp only at hc49
                      refine TC.skip ?_
                      refine block_normal ?_
                      refine then_normal ?_
                      refine TC.seq ?_
                      refine TC.region ?_
                      refine TL.run1 (pure_assign rfl) rfl ?_
                      refine TL.nil' ?_
                      refine TC.ret ?_
                      exact ret_boolK rfl (by first | (simp only [bd]; simp_all; done) | (simp_all [bd]; done) | grind [bd])
                  · try dsimp only at hg56
                    refine TL.passG rfl rfl rfl rfl ?_
                    refine TL.passG rfl rfl rfl rfl ?_
                    refine TL.passG rfl rfl rfl rfl ?_
                    refine TL.passG rfl rfl rfl rfl ?_
                    refine TL.passG rfl rfl rfl rfl ?_
                    refine TL.passG rfl rfl rfl rfl ?_
                    refine TL.run1 (pure_pick_false rfl rfl) rfl ?_
                    refine TL.run1 (pure_assign rfl) rfl ?_
                    refine TL.nil' ?_
                    first | refine TC.condD rfl (fun hc49 => ?_) (fun hc49 => ?_) | refine TC.condN rfl (fun hc49 => ?_) (fun hc49 => ?_) | refine TC.cond rfl (fun hc49 => ?_) (fun hc49 => ?_)
                    · try dsimp only at hc49
                      refine TC.seq ?_
                      refine TC.region ?_
                      refine TL.run1 (pure_assign rfl) rfl ?_
                      refine TL.nil' ?_
                      refine TC.ret ?_
                      refine block_ret ?_
                      refine then_ret ?_
                      exact ret_boolK rfl (by first | (simp only [bd]; simp_all; done) | (simp_all [bd]; done) | grind [bd])
                    · try dsimp only at hc49
                      refine TC.skip ?_
                      refine block_normal ?_
                      refine then_normal ?_
                      refine TC.seq ?_
                      refine TC.region ?_
                      refine TL.run1 (pure_assign rfl) rfl ?_
                      refine TL.nil' ?_
                      refine TC.ret ?_
                      exact ret_boolK rfl (by first | (simp only [bd]; simp_all; done) | (simp_all [bd]; done) | grind [bd])
                · try dsimp only at hg52
                  refine TL.passG rfl rfl rfl rfl ?_
                  refine TL.passG rfl rfl rfl rfl ?_
                  refine TL.run1 (pure_pick_false rfl rfl) rfl ?_
                  refine TL.run1 (pure_move rfl) rfl ?_
                  refine TL.passG rfl rfl rfl rfl ?_
                  refine TL.passG rfl rfl rfl rfl ?_
                  refine TL.passG rfl rfl rfl rfl ?_
                  refine TL.passG rfl rfl rfl rfl ?_
                  refine TL.passG rfl rfl rfl rfl ?_
                  refine TL.passG rfl rfl rfl rfl ?_
                  refine TL.run1 (pure_pick_false rfl rfl) rfl ?_
                  refine TL.run1 (pure_assign rfl) rfl ?_
                  refine TL.nil' ?_
                  first | refine TC.condD rfl (fun hc49 => ?_) (fun hc49 => ?_) | refine TC.condN rfl (fun hc49 => ?_) (fun hc49 => ?_) | refine TC.cond rfl (fun hc49 => ?_) (fun hc49 => ?_)
                  · try dsimp only at hc49
                    refine TC.seq ?_
                    refine TC.region ?_
                    refine TL.run1 (pure_assign rfl) rfl ?_
                    refine TL.nil' ?_
                    refine TC.ret ?_
                    refine block_ret ?_
                    refine then_ret ?_
                    exact ret_boolK rfl (by first | (simp only [bd]; simp_all; done) | (simp_all [bd]; done) | grind [bd])
                  · try dsimp only at hc49
                    refine TC.skip ?_
                    refine block_normal ?_
                    refine then_normal ?_
                    refine TC.seq ?_
                    refine TC.region ?_
                    refine TL.run1 (pure_assign rfl) rfl ?_
                    refine TL.nil' ?_
                    refine TC.ret ?_
                    exact ret_boolK rfl (by first | (simp only [bd]; simp_all; done) | (simp_all [bd]; done) | grind [bd])
        · try dsimp only at hc24
          refine TC.seq ?_
          refine TC.region ?_
          refine TL.run1 (pure_move rfl) rfl ?_
          refine TL.run1 (pure_eql rfl rfl) rfl ?_
          refine TL.run1 (pure_assign rfl) rfl ?_
          refine TL.nil' ?_
          first | refine TC.condD rfl (fun hc24 => ?_) (fun hc24 => ?_) | refine TC.condN rfl (fun hc24 => ?_) (fun hc24 => ?_) | refine TC.cond rfl (fun hc24 => ?_) (fun hc24 => ?_)
          · try dsimp only at hc24
            refine TC.skip' ?_
            first | refine TC.condD rfl (fun hc24 => ?_) (fun hc24 => ?_) | refine TC.condN rfl (fun hc24 => ?_) (fun hc24 => ?_) | refine TC.cond rfl (fun hc24 => ?_) (fun hc24 => ?_)
            · try dsimp only at hc24
              refine TC.seq ?_
              refine TC.region ?_
              refine TL.run1 (pure_assign rfl) rfl ?_
              refine TL.nil' ?_
              refine TC.ret ?_
              refine block_ret ?_
              refine then_ret ?_
              exact ret_boolK rfl (by first | (simp only [bd]; simp_all; done) | (simp_all [bd]; done) | grind [bd])
            · try dsimp only at hc24
              refine TC.seq ?_
              refine TC.region ?_
              refine TL.run1 (pure_move rfl) rfl ?_
              refine TL.run1 (pure_eql rfl rfl) rfl ?_
              refine TL.run1 (pure_move rfl) rfl ?_
              first | refine TL.splitP 39 rfl (fun hg39 => ?_) (fun hg39 => ?_) | refine TL.split 39 rfl (fun hg39 => ?_) (fun hg39 => ?_)
              · try dsimp only at hg39
                refine TL.runG rfl rfl (pure_move rfl) rfl ?_
                refine TL.runG rfl rfl (pure_eql rfl rfl) rfl ?_
                refine TL.run1 (pure_pick_true rfl rfl) rfl ?_
                refine TL.run1 (pure_move rfl) rfl ?_
                first | refine TL.splitP 43 rfl (fun hg43 => ?_) (fun hg43 => ?_) | refine TL.split 43 rfl (fun hg43 => ?_) (fun hg43 => ?_)
                · try dsimp only at hg43
                  refine TL.runG rfl rfl (pure_move rfl) rfl ?_
                  first | refine TL.runG rfl rfl (pure_nilCheck rfl) rfl ?_ | refine TL.runG rfl rfl (pure_nilCheck_own rfl) rfl ?_
                  first | refine TL.runG rfl rfl (pure_fieldAddr Ty.f92_2 rfl (.succ (.succ (.zero _))) (List.cons_ne_nil _ _)) rfl ?_ | refine TL.runG rfl rfl (pure_fieldAddr_own Ty.f92_2 rfl) rfl ?_
                  first | refine TL.runG rfl rfl (pure_load1 Ty.one4 rfl) rfl ?_ | refine TL.runG rfl rfl (pure_load1_own Ty.one4 rfl (by repeat (first | exact List.Mem.head _ | apply List.Mem.tail)) (by repeat (first | exact DropR.zero _ | apply DropR.succ))) rfl ?_
                  refine TL.run1 (pure_pick_true rfl rfl) rfl ?_
                  refine TL.run1 (pure_assign rfl) rfl ?_
                  refine TL.nil' ?_
                  first | refine TC.condD rfl (fun hc36 => ?_) (fun hc36 => ?_) | refine TC.condN rfl (fun hc36 => ?_) (fun hc36 => ?_) | refine TC.cond rfl (fun hc36 => ?_) (fun hc36 => ?_)
                  · try dsimp only at hc36
                    refine TC.seq ?_
                    refine TC.region ?_
                    refine TL.run1 (pure_assign rfl) rfl ?_
                    refine TL.nil' ?_
                    refine TC.ret ?_
                    refine block_ret ?_
                    refine then_ret ?_
                    exact ret_boolK rfl (by first | (simp only [bd]; simp_all; done) | (simp_all [bd]; done) | grind [bd])
                  · try dsimp only at hc36
                    refine TC.seq ?_
                    refine TC.region ?_
                    refine TL.run1 (pure_move rfl) rfl ?_
                    refine TL.run1 (pure_eql rfl rfl) rfl ?_
                    refine TL.run1 (pure_move rfl) rfl ?_
                    first | refine TL.splitP 52 rfl (fun hg52 => ?_) (fun hg52 => ?_) | refine TL.split 52 rfl (fun hg52 => ?_) (fun hg52 => ?_)
                    · try dsimp only at hg52
                      refine TL.runG rfl rfl (pure_move rfl) rfl ?_
                      refine TL.runG rfl rfl (pure_eql rfl rfl) rfl ?_
                      refine TL.run1 (pure_pick_true rfl rfl) rfl ?_
                      refine TL.run1 (pure_move rfl) rfl ?_
                      first | refine TL.splitP 56 rfl (fun hg56 => ?_) (fun hg56 => ?_) | refine TL.split 56 rfl (fun hg56 => ?_) (fun hg56 => ?_)
                      · try dsimp only at hg56
                        refine TL.runG rfl rfl (pure_move rfl) rfl ?_
                        first | refine TL.runG rfl rfl (pure_nilCheck rfl) rfl ?_ | refine TL.runG rfl rfl (pure_nilCheck_own rfl) rfl ?_
                        first | refine TL.runG rfl rfl (pure_fieldAddr Ty.f92_3 rfl (.succ (.succ (.succ (.zero _)))) (List.cons_ne_nil _ _)) rfl ?_ | refine TL.runG rfl rfl (pure_fieldAddr_own Ty.f92_3 rfl) rfl ?_
                        first | refine TL.runG rfl rfl (pure_load1 Ty.one3 rfl) rfl ?_ | refine TL.runG rfl rfl (pure_load1_own Ty.one3 rfl (by repeat (first | exact List.Mem.head _ | apply List.Mem.tail)) (by repeat (first | exact DropR.zero _ | apply DropR.succ))) rfl ?_
                        refine TL.runG rfl rfl (pure_rem rfl rfl (by omega) (by omega)) rfl ?_
                        refine TL.runG rfl rfl (pure_eql rfl rfl) rfl ?_
                        refine TL.run1 (pure_pick_true rfl rfl) rfl ?_
                        refine TL.run1 (pure_assign rfl) rfl ?_
                        refine TL.nil' ?_
                        first | refine TC.condD rfl (fun hc49 => ?_) (fun hc49 => ?_) | refine TC.condN rfl (fun hc49 => ?_) (fun hc49 => ?_) | refine TC.cond rfl (fun hc49 => ?_) (fun hc49 => ?_)
                        · try dsimp only at hc49
                          refine TC.seq ?_
                          refine TC.region ?_
                          refine TL.run1 (pure_assign rfl) rfl ?_
                          refine TL.nil' ?_
                          refine TC.ret ?_
                          refine block_ret ?_
                          refine then_ret ?_
                          exact ret_boolK rfl (by first | (simp only [bd]; simp_all; done) | (simp_all [bd]; done) | grind [bd])
                        · try dsimp only at hc49
                          refine TC.skip ?_
                          refine block_normal ?_
                          refine then_normal ?_
                          refine TC.seq ?_
                          refine TC.region ?_
                          refine TL.run1 (pure_assign rfl) rfl ?_
                          refine TL.nil' ?_
                          refine TC.ret ?_
                          exact ret_boolK rfl (by first | (simp only [bd]; simp_all; done) | (simp_all [bd]; done) | grind [bd])
                      · try dsimp only at hg56
                        refine TL.passG rfl rfl rfl rfl ?_
                        refine TL.passG rfl rfl rfl rfl ?_
                        refine TL.passG rfl rfl rfl rfl ?_
                        refine TL.passG rfl rfl rfl rfl ?_
                        refine TL.passG rfl rfl rfl rfl ?_
                        refine TL.passG rfl rfl rfl rfl ?_
                        refine TL.run1 (pure_pick_false rfl rfl) rfl ?_
                        refine TL.run1 (pure_assign rfl) rfl ?_
                        refine TL.nil' ?_
                        first | refine TC.condD rfl (fun hc49 => ?_) (fun hc49 => ?_) | refine TC.condN rfl (fun hc49 => ?_) (fun hc49 => ?_) | refine TC.cond rfl (fun hc49 => ?_) (fun hc49 => ?_)
                        · try dsimp only at hc49
                          refine TC.seq ?_
                          refine TC.region ?_
                          refine TL.run1 (pure_assign rfl) rfl ?_
                          refine TL.nil' ?_
                          refine TC.ret ?_
                          refine block_ret ?_
                          refine then_ret ?_
                          exact ret_boolK rfl (by first | (simp only [bd]; simp_all; done) | (simp_all [bd]; done) | grind [bd])
                        · try dsimp only at hc49
                          refine TC.skip ?_
                          refine block_normal ?_
                          refine then_normal ?_
                          refine TC.seq ?_
                          refine TC.region ?_
                          refine TL.run1 (pure_assign rfl) rfl ?_
                          refine TL.nil' ?_
                          refine TC.ret ?_
                          exact ret_boolK rfl (by first | (simp only [bd]; simp_all; done) | (simp_all [bd]; done) | grind [bd])
                    · try dsimp only at hg52
                      refine TL.passG rfl rfl rfl rfl ?_
                      refine TL.passG rfl rfl rfl rfl ?_
                      refine TL.run1 (pure_pick_false rfl rfl) rfl ?_
                      refine TL.run1 (pure_move rfl) rfl ?_
                      refine TL.passG rfl rfl rfl rfl ?_
                      refine TL.passG rfl rfl rfl rfl ?_
                      refine TL.passG rfl rfl rfl rfl ?_
                      refine TL.passG rfl rfl rfl rfl ?_
                      refine TL.passG rfl rfl rfl rfl ?_
                      refine TL.passG rfl rfl rfl rfl ?_
                      refine TL.run1 (pure_pick_false rfl rfl) rfl ?_
                      refine TL.run1 (pure_assign rfl) rfl ?_
                      refine TL.nil' ?_
                      first | refine TC.condD rfl (fun hc49 => ?_) (fun hc49 => ?_) | refine TC.condN rfl (fun hc49 => ?_) (fun hc49 => ?_) | refine TC.cond rfl (fun hc49 => ?_) (fun hc49 => ?_)
                      · try dsimp only at hc49
                        refine TC.seq ?_
                        refine TC.region ?_
                        refine TL.run1 (pure_assign rfl) rfl ?_
                        refine TL.nil' ?_
                        refine TC.ret ?_
                        refine block_ret ?_
                        refine then_ret ?_
                        exact ret_boolK rfl (by first | (simp only [bd]; simp_all; done) | (simp_all [bd]; done) | grind [bd])
                      · try dsimp only at hc49
                        refine TC.skip ?_
                        refine block_normal ?_
                        refine then_normal ?_
                        refine TC.seq ?_
                        refine TC.region ?_
                        refine TL.run1 (pure_assign rfl) rfl ?_
                        refine TL.nil' ?_
                        refine TC.ret ?_
                        exact ret_boolK rfl (by first | (simp only [bd]; simp_all; done) | (simp_all [bd]; done) | grind [bd])
                · try dsimp only at hg43
                  refine TL.passG rfl rfl rfl rfl ?_
                  refine TL.passG rfl rfl rfl rfl ?_
                  refine TL.passG rfl rfl rfl rfl ?_
                  refine TL.passG rfl rfl rfl rfl ?_
                  refine TL.run1 (pure_pick_false rfl rfl) rfl ?_
                  refine TL.run1 (pure_assign rfl) rfl ?_
                  refine TL.nil' ?_
                  first | refine TC.condD rfl (fun hc36 => ?_) (fun hc36 => ?_) | refine TC.condN rfl (fun hc36 => ?_) (fun hc36 => ?_) | refine TC.cond rfl (fun hc36 => ?_) (fun hc36 => ?_)
                  · try dsimp only at hc36
                    refine TC.seq ?_
                    refine TC.region ?_
                    refine TL.run1 (pure_assign rfl) rfl ?_
                    refine TL.nil' ?_
                    refine TC.ret ?_
                    refine block_ret ?_
                    refine then_ret ?_
                    exact ret_boolK rfl (by first | (simp only [bd]; simp_all; done) | (simp_all [bd]; done) | grind [bd])
                  · try dsimp only at hc36
                    refine TC.seq ?_
                    refine TC.region ?_
                    refine TL.run1 (pure_move rfl) rfl ?_
                    refine TL.run1 (pure_eql rfl rfl) rfl ?_
                    refine TL.run1 (pure_move rfl) rfl ?_
                    first | refine TL.splitP 52 rfl (fun hg52 => ?_) (fun hg52 => ?_) | refine TL.split 52 rfl (fun hg52 => ?_) (fun hg52 => ?_)
                    · try dsimp only at hg52
                      refine TL.runG rfl rfl (pure_move rfl) rfl ?_
                      refine TL.runG rfl rfl (pure_eql rfl rfl) rfl ?_
                      refine TL.run1 (pure_pick_true rfl rfl) rfl ?_
                      refine TL.run1 (pure_move rfl) rfl ?_
                      first | refine TL.splitP 56 rfl (fun hg56 => ?_) (fun hg56 => ?_) | refine TL.split 56 rfl (fun hg56 => ?_) (fun hg56 => ?_)
                      · try dsimp only at hg56
                        refine TL.runG rfl rfl (pure_move rfl) rfl ?_
                        first | refine TL.runG rfl rfl (pure_nilCheck rfl) rfl ?_ | refine TL.runG rfl rfl (pure_nilCheck_own rfl) rfl ?_
                        first | refine TL.runG rfl rfl (pure_fieldAddr Ty.f92_3 rfl (.succ (.succ (.succ (.zero _)))) (List.cons_ne_nil _ _)) rfl ?_ | refine TL.runG rfl rfl (pure_fieldAddr_own Ty.f92_3 rfl) rfl ?_
                        first | refine TL.runG rfl rfl (pure_load1 Ty.one3 rfl) rfl ?_ | refine TL.runG rfl rfl (pure_load1_own Ty.one3 rfl (by repeat (first | exact List.Mem.head _ | apply List.Mem.tail)) (by repeat (first | exact DropR.zero _ | apply DropR.succ))) rfl ?_
                        refine TL.runG rfl rfl (pure_rem rfl rfl (by omega) (by omega)) rfl ?_
                        refine TL.runG rfl rfl (pure_eql rfl rfl) rfl ?_
                        refine TL.run1 (pure_pick_true rfl rfl) rfl ?_
                        refine TL.run1 (pure_assign rfl) rfl ?_
                        refine TL.nil' ?_
                        first | refine TC.condD rfl (fun hc49 => ?_) (fun hc49 => ?_) | refine TC.condN rfl (fun hc49 => ?_) (fun hc49 => ?_) | refine TC.cond rfl (fun hc49 => ?_) (fun hc49 => ?_)
                        · try dsimp only at hc49
                          refine TC.seq ?_
                          refine TC.region ?_
                          refine TL.run1 (pure_assign rfl) rfl ?_
                          refine TL.nil' ?_
                          refine TC.ret ?_
                          refine block_ret ?_
                          refine then_ret ?_
                          exact ret_boolK rfl (by first | (simp only [bd]; simp_all; done) | (simp_all [bd]; done) | grind [bd])
                        · try dsimp only at hc49
                          refine TC.skip ?_
                          refine block_normal ?_
                          refine then_normal ?_
                          refine TC.seq ?_
                          refine TC.region ?_
                          refine TL.run1 (pure_assign rfl) rfl ?_
                          refine TL.nil' ?_
                          refine TC.ret ?_
                          exact ret_boolK rfl (by first | (simp only [bd]; simp_all; done) | (simp_all [bd]; done) | grind [bd])
                      · try dsimp only at hg56
                        refine TL.passG rfl rfl rfl rfl ?_
                        refine TL.passG rfl rfl rfl rfl ?_
                        refine TL.passG rfl rfl rfl rfl ?_
                        refine TL.passG rfl rfl rfl rfl ?_
                        refine TL.passG rfl rfl rfl rfl ?_
                        refine TL.passG rfl rfl rfl rfl ?_
                        refine TL.run1 (pure_pick_false rfl rfl) rfl ?_
                        refine TL.run1 (pure_assign rfl) rfl ?_
                        refine TL.nil' ?_
                        first | refine TC.condD rfl (fun hc49 => ?_) (fun hc49 => ?_) | refine TC.condN rfl (fun hc49 => ?_) (fun hc49 => ?_) | refine TC.cond rfl (fun hc49 => ?_) (fun hc49 => ?_)
                        · try dsimp only at hc49
                          refine TC.seq ?_
                          refine TC.region ?_
                          refine TL.run1 (pure_assign rfl) rfl ?_
                          refine TL.nil' ?_
                          refine TC.ret ?_
                          refine block_ret ?_
                          refine then_ret ?_
                          exact ret_boolK rfl (by first | (simp only [bd]; simp_all; done) | (simp_all [bd]; done) | grind [bd])
                        · try dsimp only at hc49
                          refine TC.skip ?_
                          refine block_normal ?_
                          refine then_normal ?_
                          refine TC.seq ?_
                          refine TC.region ?_
                          refine TL.run1 (pure_assign rfl) rfl ?_
                          refine TL.nil' ?_
                          refine TC.ret ?_
                          exact ret_boolK rfl (by first | (simp only [bd]; simp_all; done) | (simp_all [bd]; done) | grind [bd])
                    · try dsimp only at hg52
                      refine TL.passG rfl rfl rfl rfl ?_
                      refine TL.passG rfl rfl rfl rfl ?_
                      refine TL.run1 (pure_pick_false rfl rfl) rfl ?_
                      refine TL.run1 (pure_move rfl) rfl ?_
                      refine TL.passG rfl rfl rfl rfl ?_
                      refine TL.passG rfl rfl rfl rfl ?_
                      refine TL.passG rfl rfl rfl rfl ?_
                      refine TL.passG rfl rfl rfl rfl ?_
                      refine TL.passG rfl rfl rfl rfl ?_
                      refine TL.passG rfl rfl rfl rfl ?_
                      refine TL.run1 (pure_pick_false rfl rfl) rfl ?_
                      refine TL.run1 (pure_assign rfl) rfl ?_
                      refine TL.nil' ?_
                      first | refine TC.condD rfl (fun hc49 => ?_) (fun hc49 => ?_) | refine TC.condN rfl (fun hc49 => ?_) (fun hc49 => ?_) | refine TC.cond rfl (fun hc49 => ?_) (fun hc49 => ?_)
                      · try dsimp only at hc49
                        refine TC.seq ?_
                        refine TC.region ?_
                        refine TL.run1 (pure_assign rfl) rfl ?_
                        refine TL.nil' ?_
                        refine TC.ret ?_
                        refine block_ret ?_
                        refine then_ret ?_
                        exact ret_boolK rfl (by first | (simp only [bd]; simp_all; done) | (simp_all [bd]; done) | grind [bd])
                      · try dsimp only at hc49
                        refine TC.skip ?_
                        refine block_normal ?_
                        refine then_normal ?_
                        refine TC.seq ?_
                        refine TC.region ?_
                        refine TL.run1 (pure_assign rfl) rfl ?_
                        refine TL.nil' ?_
                        refine TC.ret ?_
                        exact ret_boolK rfl (by first | (simp only [bd]; simp_all; done) | (simp_all [bd]; done) | grind [bd])
              · try dsimp only at hg39
                refine TL.passG rfl rfl rfl rfl ?_
                refine TL.passG rfl rfl rfl rfl ?_
                refine TL.run1 (pure_pick_false rfl rfl) rfl ?_
                refine TL.run1 (pure_move rfl) rfl ?_
                refine TL.passG rfl rfl rfl rfl ?_
                refine TL.passG rfl rfl rfl rfl ?_
                refine TL.passG rfl rfl rfl rfl ?_
                refine TL.passG rfl rfl rfl rfl ?_
                refine TL.run1 (pure_pick_false rfl rfl) rfl ?_
                refine TL.run1 (pure_assign rfl) rfl ?_
                refine TL.nil' ?_
                first | refine TC.condD rfl (fun hc36 => ?_) (fun hc36 => ?_) | refine TC.condN rfl (fun hc36 => ?_) (fun hc36 => ?_) | refine TC.cond rfl (fun hc36 => ?_) (fun hc36 => ?_)
                · try dsimp only at hc36
                  refine TC.seq ?_
                  refine TC.region ?_
                  refine TL.run1 (pure_assign rfl) rfl ?_
                  refine TL.nil' ?_
                  refine TC.ret ?_
                  refine block_ret ?_
                  refine then_ret ?_
                  exact ret_boolK rfl (by first | (simp only [bd]; simp_all; done) | (simp_all [bd]; done) | grind [bd])
                · try dsimp only at hc36
                  refine TC.seq ?_
                  refine TC.region ?_
                  refine TL.run1 (pure_move rfl) rfl ?_
                  refine TL.run1 (pure_eql rfl rfl) rfl ?_
                  refine TL.run1 (pure_move rfl) rfl ?_
                  first | refine TL.splitP 52 rfl (fun hg52 => ?_) (fun hg52 => ?_) | refine TL.split 52 rfl (fun hg52 => ?_) (fun hg52 => ?_)
                  · try dsimp only at hg52
                    refine TL.runG rfl rfl (pure_move rfl) rfl ?_
                    refine TL.runG rfl rfl (pure_eql rfl rfl) rfl ?_
                    refine TL.run1 (pure_pick_true rfl rfl) rfl ?_
                    refine TL.run1 (pure_move rfl) rfl ?_
                    first | refine TL.splitP 56 rfl (fun hg56 => ?_) (fun hg56 => ?_) | refine TL.split 56 rfl (fun hg56 => ?_) (fun hg56 => ?_)
                    · try dsimp only at hg56
                      refine TL.runG rfl rfl (pure_move rfl) rfl ?_
                      first | refine TL.runG rfl rfl (pure_nilCheck rfl) rfl ?_ | refine TL.runG rfl rfl (pure_nilCheck_own rfl) rfl ?_
                      first | refine TL.runG rfl rfl (pure_fieldAddr Ty.f92_3 rfl (.succ (.succ (.succ (.zero _)))) (List.cons_ne_nil _ _)) rfl ?_ | refine TL.runG rfl rfl (pure_fieldAddr_own Ty.f92_3 rfl) rfl ?_
                      first | refine TL.runG rfl rfl (pure_load1 Ty.one3 rfl) rfl ?_ | refine TL.runG rfl rfl (pure_load1_own Ty.one3 rfl (by repeat (first | exact List.Mem.head _ | apply List.Mem.tail)) (by repeat (first | exact DropR.zero _ | apply DropR.succ))) rfl ?_
                      refine TL.runG rfl rfl (pure_rem rfl rfl (by omega) (by omega)) rfl ?_
                      refine TL.runG rfl rfl (pure_eql rfl rfl) rfl ?_
                      refine TL.run1 (pure_pick_true rfl rfl) rfl ?_
                      refine TL.run1 (pure_assign rfl) rfl ?_
                      refine TL.nil' ?_
                      first | refine TC.condD rfl (fun hc49 => ?_) (fun hc49 => ?_) | refine TC.condN rfl (fun hc49 => ?_) (fun hc49 => ?_) | refine TC.cond rfl (fun hc49 => ?_) (fun hc49 => ?_)
                      · try dsimp only at hc49
                        refine TC.seq ?_
                        refine TC.region ?_
                        refine TL.run1 (pure_assign rfl) rfl ?_
                        refine TL.nil' ?_
                        refine TC.ret ?_
                        refine block_ret ?_
                        refine then_ret ?_
                        exact ret_boolK rfl (by first | (simp only [bd]; simp_all; done) | (simp_all [bd]; done) | grind [bd])
                      · try dsimp only at hc49
                        refine TC.skip ?_
                        refine block_normal ?_
                        refine then_normal ?_
                        refine TC.seq ?_
                        refine TC.region ?_
                        refine TL.run1 (pure_assign rfl) rfl ?_
                        refine TL.nil' ?_
                        refine TC.ret ?_
                        exact ret_boolK rfl (by first | (simp only [bd]; simp_all; done) | (simp_all [bd]; done) | grind [bd])
                    · try dsimp only at hg56
                      refine TL.passG rfl rfl rfl rfl ?_
                      refine TL.passG rfl rfl rfl rfl ?_
                      refine TL.passG rfl rfl rfl rfl ?_
                      refine TL.passG rfl rfl rfl rfl ?_
                      refine TL.passG rfl rfl rfl rfl ?_
                      refine TL.passG rfl rfl rfl rfl ?_
                      refine TL.run1 (pure_pick_false rfl rfl) rfl ?_
                      refine TL.run1 (pure_assign rfl) rfl ?_
                      refine TL.nil' ?_
                      first | refine TC.condD rfl (fun hc49 => ?_) (fun hc49 => ?_) | refine TC.condN rfl (fun hc49 => ?_) (fun hc49 => ?_) | refine TC.cond rfl (fun hc49 => ?_) (fun hc49 => ?_)
                      · try dsimp only at hc49
                        refine TC.seq ?_
                        refine TC.region ?_
                        refine TL.run1 (pure_assign rfl) rfl ?_
                        refine TL.nil' ?_
                        refine TC.ret ?_
                        refine block_ret ?_
                        refine then_ret ?_
                        exact ret_boolK rfl (by first | (simp only [bd]; simp_all; done) | (simp_all [bd]; done) | grind [bd])
                      · try dsimp only at hc49
                        refine TC.skip ?_
                        refine block_normal ?_
                        refine then_normal ?_
                        refine TC.seq ?_
                        refine TC.region ?_
                        refine TL.run1 (pure_assign rfl) rfl ?_
                        refine TL.nil' ?_
                        refine TC.ret ?_
                        exact ret_boolK rfl (by first | (simp only [bd]; simp_all; done) | (simp_all [bd]; done) | grind [bd])
                  · try dsimp only at hg52
                    refine TL.passG rfl rfl rfl rfl ?_
                    refine TL.passG rfl rfl rfl rfl ?_
                    refine TL.run1 (pure_pick_false rfl rfl) rfl ?_
                    refine TL.run1 (pure_move rfl) rfl ?_
                    refine TL.passG rfl rfl rfl rfl ?_
                    refine TL.passG rfl rfl rfl rfl ?_
                    refine TL.passG rfl rfl rfl rfl ?_
                    refine TL.passG rfl rfl rfl rfl ?_
                    refine TL.passG rfl rfl rfl rfl ?_
                    refine TL.passG rfl rfl rfl rfl ?_
                    refine TL.run1 (pure_pick_false rfl rfl) rfl ?_
                    refine TL.run1 (pure_assign rfl) rfl ?_
                    refine TL.nil' ?_
                    first | refine TC.condD rfl (fun hc49 => ?_) (fun hc49 => ?_) | refine TC.condN rfl (fun hc49 => ?_) (fun hc49 => ?_) | refine TC.cond rfl (fun hc49 => ?_) (fun hc49 => ?_)
                    · try dsimp only at hc49
                      refine TC.seq ?_
                      refine TC.region ?_
                      refine TL.run1 (pure_assign rfl) rfl ?_
                      refine TL.nil' ?_
                      refine TC.ret ?_
                      refine block_ret ?_
                      refine then_ret ?_
                      exact ret_boolK rfl (by first | (simp only [bd]; simp_all; done) | (simp_all [bd]; done) | grind [bd])
                    · try dsimp only at hc49
                      refine TC.skip ?_
                      refine block_normal ?_
                      refine then_normal ?_
                      refine TC.seq ?_
                      refine TC.region ?_
                      refine TL.run1 (pure_assign rfl) rfl ?_
                      refine TL.nil' ?_
                      refine TC.ret ?_
                      exact ret_boolK rfl (by first | (simp only [bd]; simp_all; done) | (simp_all [bd]; done) | grind [bd])
          · try dsimp only at hc24
            refine TC.seq ?_
            refine TC.region ?_
            refine TL.run1 (pure_move rfl) rfl ?_
            refine TL.run1 (pure_eql rfl rfl) rfl ?_
            refine TL.run1 (pure_assign rfl) rfl ?_
            refine TL.nil' ?_
            first | refine TC.condD rfl (fun hc24 => ?_) (fun hc24 => ?_) | refine TC.condN rfl (fun hc24 => ?_) (fun hc24 => ?_) | refine TC.cond rfl (fun hc24 => ?_) (fun hc24 => ?_)
            · try dsimp only at hc24
              refine TC.skip' ?_
              first | refine TC.condD rfl (fun hc24 => ?_) (fun hc24 => ?_) | refine TC.condN rfl (fun hc24 => ?_) (fun hc24 => ?_) | refine TC.cond rfl (fun hc24 => ?_) (fun hc24 => ?_)
              · try dsimp only at hc24
                refine TC.seq ?_
                refine TC.region ?_
                refine TL.run1 (pure_assign rfl) rfl ?_
                refine TL.nil' ?_
                refine TC.ret ?_
                refine block_ret ?_
                refine then_ret ?_
                exact ret_boolK rfl (by first | (simp only [bd]; simp_all; done) | (simp_all [bd]; done) | grind [bd])
              · try dsimp only at hc24
                refine TC.seq ?_
                refine TC.region ?_
                refine TL.run1 (pure_move rfl) rfl ?_
                refine TL.run1 (pure_eql rfl rfl) rfl ?_
                refine TL.run1 (pure_move rfl) rfl ?_
                first | refine TL.splitP 39 rfl (fun hg39 => ?_) (fun hg39 => ?_) | refine TL.split 39 rfl (fun hg39 => ?_) (fun hg39 => ?_)
                · try dsimp only at hg39
                  refine TL.runG rfl rfl (pure_move rfl) rfl ?_
                  refine TL.runG rfl rfl (pure_eql rfl rfl) rfl ?_
                  refine TL.run1 (pure_pick_true rfl rfl) rfl ?_
                  refine TL.run1 (pure_move rfl) rfl ?_
                  first | refine TL.splitP 43 rfl (fun hg43 => ?_) (fun hg43 => ?_) | refine TL.split 43 rfl (fun hg43 => ?_) (fun hg43 => ?_)
                  · try dsimp only at hg43
                    refine TL.runG rfl rfl (pure_move rfl) rfl ?_
                    first | refine TL.runG rfl rfl (pure_nilCheck rfl) rfl ?_ | refine TL.runG rfl rfl (pure_nilCheck_own rfl) rfl ?_
                    first | refine TL.runG rfl rfl (pure_fieldAddr Ty.f92_2 rfl (.succ (.succ (.zero _))) (List.cons_ne_nil _ _)) rfl ?_ | refine TL.runG rfl rfl (pure_fieldAddr_own Ty.f92_2 rfl) rfl ?_
                    first | refine TL.runG rfl rfl (pure_load1 Ty.one4 rfl) rfl ?_ | refine TL.runG rfl rfl (pure_load1_own Ty.one4 rfl (by repeat (first | exact List.Mem.head _ | apply List.Mem.tail)) (by repeat (first | exact DropR.zero _ | apply DropR.succ))) rfl ?_
                    refine TL.run1 (pure_pick_true rfl rfl) rfl ?_
                    refine TL.run1 (pure_assign rfl) rfl ?_
                    refine TL.nil' ?_
                    first | refine TC.condD rfl (fun hc36 => ?_) (fun hc36 => ?_) | refine TC.condN rfl (fun hc36 => ?_) (fun hc36 => ?_) | refine TC.cond rfl (fun hc36 => ?_) (fun hc36 => ?_)
                    · try dsimp only at hc36
                      refine TC.seq ?_
                      refine TC.region ?_
                      refine TL.run1 (pure_assign rfl) rfl ?_
                      refine TL.nil' ?_
                      refine TC.ret ?_
                      refine block_ret ?_
                      refine then_ret ?_
                      exact ret_boolK rfl (by first | (simp only [bd]; simp_all; done) | (simp_all [bd]; done) | grind [bd])
                    · try dsimp only at hc36
                      refine TC.seq ?_
                      refine TC.region ?_
                      refine TL.run1 (pure_move rfl) rfl ?_
                      refine TL.run1 (pure_eql rfl rfl) rfl ?_
                      refine TL.run1 (pure_move rfl) rfl ?_
                      first | refine TL.splitP 52 rfl (fun hg52 => ?_) (fun hg52 => ?_) | refine TL.split 52 rfl (fun hg52 => ?_) (fun hg52 => ?_)
                      · try dsimp only at hg52
                        refine TL.runG rfl rfl (pure_move rfl) rfl ?_
                        refine TL.runG rfl rfl (pure_eql rfl rfl) rfl ?_
                        refine TL.run1 (pure_pick_true rfl rfl) rfl ?_
                        refine TL.run1 (pure_move rfl) rfl ?_
                        first | refine TL.splitP 56 rfl (fun hg56 => ?_) (fun hg56 => ?_) | refine TL.split 56 rfl (fun hg56 => ?_) (fun hg56 => ?_)
                        · try dsimp only at hg56
                          refine TL.runG rfl rfl (pure_move rfl) rfl ?_
                          first | refine TL.runG rfl rfl (pure_nilCheck rfl) rfl ?_ | refine TL.runG rfl rfl (pure_nilCheck_own rfl) rfl ?_
                          first | refine TL.runG rfl rfl (pure_fieldAddr Ty.f92_3 rfl (.succ (.succ (.succ (.zero _)))) (List.cons_ne_nil _ _)) rfl ?_ | refine TL.runG rfl rfl (pure_fieldAddr_own Ty.f92_3 rfl) rfl ?_
                          first | refine TL.runG rfl rfl (pure_load1 Ty.one3 rfl) rfl ?_ | refine TL.runG rfl rfl (pure_load1_own Ty.one3 rfl (by repeat (first | exact List.Mem.head _ | apply List.Mem.tail)) (by repeat (first | exact DropR.zero _ | apply DropR.succ))) rfl ?_
                          refine TL.runG rfl rfl (pure_rem rfl rfl (by omega) (by omega)) rfl ?_
                          refine TL.runG rfl rfl (pure_eql rfl rfl) rfl ?_
                          refine TL.run1 (pure_pick_true rfl rfl) rfl ?_
                          refine TL.run1 (pure_assign rfl) rfl ?_
                          refine TL.nil' ?_
                          first | refine TC.condD rfl (fun hc49 => ?_) (fun hc49 => ?_) | refine TC.condN rfl (fun hc49 => ?_) (fun hc49 => ?_) | refine TC.cond rfl (fun hc49 => ?_) (fun hc49 => ?_)
                          · try dsimp only at hc49
                            refine TC.seq ?_
                            refine TC.region ?_
                            refine TL.run1 (pure_assign rfl) rfl ?_
                            refine TL.nil' ?_
                            refine TC.ret ?_
                            refine block_ret ?_
                            refine then_ret ?_
                            exact ret_boolK rfl (by first | (simp only [bd]; simp_all; done) | (simp_all [bd]; done) | grind [bd])
                          · try dsimp only at hc49
                            refine TC.skip ?_
                            refine block_normal ?_
                            refine then_normal ?_
                            refine TC.seq ?_
                            refine TC.region ?_
                            refine TL.run1 (pure_assign rfl) rfl ?_
                            refine TL.nil' ?_
                            refine TC.ret ?_
                            exact ret_boolK rfl (by first | (simp only [bd]; simp_all; done) | (simp_all [bd]; done) | grind [bd])
                        · try dsimp only at hg56
                          refine TL.passG rfl rfl rfl rfl ?_
                          refine TL.passG rfl rfl rfl rfl ?_
                          refine TL.passG rfl rfl rfl rfl ?_
                          refine TL.passG rfl rfl rfl rfl ?_
                          refine TL.passG rfl rfl rfl rfl ?_
                          refine TL.passG rfl rfl rfl rfl ?_
                          refine TL.run1 (pure_pick_false rfl rfl) rfl ?_
                          refine TL.run1 (pure_assign rfl) rfl ?_
                          refine TL.nil' ?_
                          first | refine TC.condD rfl (fun hc49 => ?_) (fun hc49 => ?_) | refine TC.condN rfl (fun hc49 => ?_) (fun hc49 => ?_) | refine TC.cond rfl (fun hc49 => ?_) (fun hc49 => ?_)
                          · try dsimp only at hc49
                            refine TC.seq ?_
                            refine TC.region ?_
                            refine TL.run1 (pure_assign rfl) rfl ?_
                            refine TL.nil' ?_
                            refine TC.ret ?_
                            refine block_ret ?_
                            refine then_ret ?_
                            exact ret_boolK rfl (by first | (simp only [bd]; simp_all; done) | (simp_all [bd]; done) | grind [bd])
                          · try dsimp only at hc49
                            refine TC.skip ?_
                            refine block_normal ?_
                            refine then_normal ?_
                            refine TC.seq ?_
                            refine TC.region ?_
                            refine TL.run1 (pure_assign rfl) rfl ?_
                            refine TL.nil' ?_
                            refine TC.ret ?_
                            exact ret_boolK rfl (by first | (simp only [bd]; simp_all; done) | (simp_all [bd]; done) | grind [bd])
                      · try dsimp only at hg52
                        refine TL.passG rfl rfl rfl rfl ?_
                        refine TL.passG rfl rfl rfl rfl ?_
                        refine TL.run1 (pure_pick_false rfl rfl) rfl ?_
                        refine TL.run1 (pure_move rfl) rfl ?_
                        refine TL.passG rfl rfl rfl rfl ?_
                        refine TL.passG rfl rfl rfl rfl ?_
                        refine TL.passG rfl rfl rfl rfl ?_
                        refine TL.passG rfl rfl rfl rfl ?_
                        refine TL.passG rfl rfl rfl rfl ?_
                        refine TL.passG rfl rfl rfl rfl ?_
                        refine TL.run1 (pure_pick_false rfl rfl) rfl ?_
                        refine TL.run1 (pure_assign rfl) rfl ?_
                        refine TL.nil' ?_
                        first | refine TC.condD rfl (fun hc49 => ?_) (fun hc49 => ?_) | refine TC.condN rfl (fun hc49 => ?_) (fun hc49 => ?_) | refine TC.cond rfl (fun hc49 => ?_) (fun hc49 => ?_)
                        · try dsimp only at hc49
                          refine TC.seq ?_
                          refine TC.region ?_
                          refine TL.run1 (pure_assign rfl) rfl ?_
                          refine TL.nil' ?_
                          refine TC.ret ?_
                          refine block_ret ?_
                          refine then_ret ?_
                          exact ret_boolK rfl (by first | (simp only [bd]; simp_all; done) | (simp_all [bd]; done) | grind [bd])
                        · try dsimp only at hc49
                          refine TC.skip ?_
                          refine block_normal ?_
                          refine then_normal ?_
                          refine TC.seq ?_
                          refine TC.region ?_
                          refine TL.run1 (pure_assign rfl) rfl ?_
                          refine TL.nil' ?_
                          refine TC.ret ?_
                          exact ret_boolK rfl (by first | (simp only [bd]; simp_all; done) | (simp_all [bd]; done) | grind [bd])
                  · try dsimp only at hg43
                    refine TL.passG rfl rfl rfl rfl ?_
                    refine TL.passG rfl rfl rfl rfl ?_
                    refine TL.passG rfl rfl rfl rfl ?_
                    refine TL.passG rfl rfl rfl rfl ?_
                    refine TL.run1 (pure_pick_false rfl rfl) rfl ?_
                    refine TL.run1 (pure_assign rfl) rfl ?_
                    refine TL.nil' ?_
                    first | refine TC.condD rfl (fun hc36 => ?_) (fun hc36 => ?_) | refine TC.condN rfl (fun hc36 => ?_) (fun hc36 => ?_) | refine TC.cond rfl (fun hc36 => ?_) (fun hc36 => ?_)
                    · try dsimp only at hc36
                      refine TC.seq ?_
                      refine TC.region ?_
                      refine TL.run1 (pure_assign rfl) rfl ?_
                      refine TL.nil' ?_
                      refine TC.ret ?_
                      refine block_ret ?_
                      refine then_ret ?_
                      exact ret_boolK rfl (by first | (simp only [bd]; simp_all; done) | (simp_all [bd]; done) | grind [bd])
                    · try dsimp only at hc36
                      refine TC.seq ?_
                      refine TC.region ?_
                      refine TL.run1 (pure_move rfl) rfl ?_
                      refine TL.run1 (pure_eql rfl rfl) rfl ?_
                      refine TL.run1 (pure_move rfl) rfl ?_
                      first | refine TL.splitP 52 rfl (fun hg52 => ?_) (fun hg52 => ?_) | refine TL.split 52 rfl (fun hg52 => ?_) (fun hg52 => ?_)
                      · try dsimp only at hg52
                        refine TL.runG rfl rfl (pure_move rfl) rfl ?_
                        refine TL.runG rfl rfl (pure_eql rfl rfl) rfl ?_
                        refine TL.run1 (pure_pick_true rfl rfl) rfl ?_
                        refine TL.run1 (pure_move rfl) rfl ?_
                        first | refine TL.splitP 56 rfl (fun hg56 => ?_) (fun hg56 => ?_) | refine TL.split 56 rfl (fun hg56 => ?_) (fun hg56 => ?_)
                        · try dsimp only at hg56
                          refine TL.runG rfl rfl (pure_move rfl) rfl ?_
                          first | refine TL.runG rfl rfl (pure_nilCheck rfl) rfl ?_ | refine TL.runG rfl rfl (pure_nilCheck_own rfl) rfl ?_
                          first | refine TL.runG rfl rfl (pure_fieldAddr Ty.f92_3 rfl (.succ (.succ (.succ (.zero _)))) (List.cons_ne_nil _ _)) rfl ?_ | refine TL.runG rfl rfl (pure_fieldAddr_own Ty.f92_3 rfl) rfl ?_
                          first | refine TL.runG rfl rfl (pure_load1 Ty.one3 rfl) rfl ?_ | refine TL.runG rfl rfl (pure_load1_own Ty.one3 rfl (by repeat (first | exact List.Mem.head _ | apply List.Mem.tail)) (by repeat (first | exact DropR.zero _ | apply DropR.succ))) rfl ?_
                          refine TL.runG rfl rfl (pure_rem rfl rfl (by omega) (by omega)) rfl ?_
                          refine TL.runG rfl rfl (pure_eql rfl rfl) rfl ?_
                          refine TL.run1 (pure_pick_true rfl rfl) rfl ?_
                          refine TL.run1 (pure_assign rfl) rfl ?_
                          refine TL.nil' ?_
                          first | refine TC.condD rfl (fun hc49 => ?_) (fun hc49 => ?_) | refine TC.condN rfl (fun hc49 => ?_) (fun hc49 => ?_) | refine TC.cond rfl (fun hc49 => ?_) (fun hc49 => ?_)
                          · try dsimp only at hc49
                            refine TC.seq ?_
                            refine TC.region ?_
                            refine TL.run1 (pure_assign rfl) rfl ?_
                            refine TL.nil' ?_
                            refine TC.ret ?_
                            refine block_ret ?_
                            refine then_ret ?_
                            exact ret_boolK rfl (by first | (simp only [bd]; simp_all; done) | (simp_all [bd]; done) | grind [bd])
                          · try dsimp only at hc49
                            refine TC.skip ?_
                            refine block_normal ?_
                            refine then_normal ?_
                            refine TC.seq ?_
                            refine TC.region ?_
                            refine TL.run1 (pure_assign rfl) rfl ?_
                            refine TL.nil' ?_
                            refine TC.ret ?_
                            exact ret_boolK rfl (by first | (simp only [bd]; simp_all; done) | (simp_all [bd]; done) | grind [bd])
                        · try dsimp only at hg56
                          refine TL.passG rfl rfl rfl rfl ?_
                          refine TL.passG rfl rfl rfl rfl ?_
                          refine TL.passG rfl rfl rfl rfl ?_
                          refine TL.passG rfl rfl rfl rfl ?_
                          refine TL.passG rfl rfl rfl rfl ?_
                          refine TL.passG rfl rfl rfl rfl ?_
                          refine TL.run1 (pure_pick_false rfl rfl) rfl ?_
                          refine TL.run1 (pure_assign rfl) rfl ?_
                          refine TL.nil' ?_
                          first | refine TC.condD rfl (fun hc49 => ?_) (fun hc49 => ?_) | refine TC.condN rfl (fun hc49 => ?_) (fun hc49 => ?_) | refine TC.cond rfl (fun hc49 => ?_) (fun hc49 => ?_)
                          · try dsimp only at hc49
                            refine TC.seq ?_
                            refine TC.region ?_
                            refine TL.run1 (pure_assign rfl) rfl ?_
                            refine TL.nil' ?_
                            refine TC.ret ?_
                            refine block_ret ?_
                            refine then_ret ?_
                            exact ret_boolK rfl (by first | (simp only [bd]; simp_all; done) | (simp_all [bd]; done) | grind [bd])
                          · try dsimp only at hc49
                            refine TC.skip ?_
                            refine block_normal ?_
                            refine then_normal ?_
                            refine TC.seq ?_
                            refine TC.region ?_
                            refine TL.run1 (pure_assign rfl) rfl ?_
                            refine TL.nil' ?_
                            refine TC.ret ?_
                            exact ret_boolK rfl (by first | (simp only [bd]; simp_all; done) | (simp_all [bd]; done) | grind [bd])
                      · try dsimp only at hg52
                        refine TL.passG rfl rfl rfl rfl ?_
                        refine TL.passG rfl rfl rfl rfl ?_
                        refine TL.run1 (pure_pick_false rfl rfl) rfl ?_
                        refine TL.run1 (pure_move rfl) rfl ?_
                        refine TL.passG rfl rfl rfl rfl ?_
                        refine TL.passG rfl rfl rfl rfl ?_
                        refine TL.passG rfl rfl rfl rfl ?_
                        refine TL.passG rfl rfl rfl rfl ?_
                        refine TL.passG rfl rfl rfl rfl ?_
                        refine TL.passG rfl rfl rfl rfl ?_
                        refine TL.run1 (pure_pick_false rfl rfl) rfl ?_
                        refine TL.run1 (pure_assign rfl) rfl ?_
                        refine TL.nil' ?_
                        first | refine TC.condD rfl (fun hc49 => ?_) (fun hc49 => ?_) | refine TC.condN rfl (fun hc49 => ?_) (fun hc49 => ?_) | refine TC.cond rfl (fun hc49 => ?_) (fun hc49 => ?_)
                        · try dsimp only at hc49
                          refine TC.seq ?_
                          refine TC.region ?_
                          refine TL.run1 (pure_assign rfl) rfl ?_
                          refine TL.nil' ?_
                          refine TC.ret ?_
                          refine block_ret ?_
                          refine then_ret ?_
                          exact ret_boolK rfl (by first | (simp only [bd]; simp_all; done) | (simp_all [bd]; done) | grind [bd])
                        · try dsimp only at hc49
                          refine TC.skip ?_
                          refine block_normal ?_
                          refine then_normal ?_
                          refine TC.seq ?_
                          refine TC.region ?_
                          refine TL.run1 (pure_assign rfl) rfl ?_
                          refine TL.nil' ?_
                          refine TC.ret ?_
                          exact ret_boolK rfl (by first | (simp only [bd]; simp_all; done) | (simp_all [bd]; done) | grind [bd])
                · try dsimp only at hg39
                  refine TL.passG rfl rfl rfl rfl ?_
                  refine TL.passG rfl rfl rfl rfl ?_
                  refine TL.run1 (pure_pick_false rfl rfl) rfl ?_
                  refine TL.run1 (pure_move rfl) rfl ?_
                  refine TL.passG rfl rfl rfl rfl ?_
                  refine TL.passG rfl rfl rfl rfl ?_
                  refine TL.passG rfl rfl rfl rfl ?_
                  refine TL.passG rfl rfl rfl rfl ?_
                  refine TL.run1 (pure_pick_false rfl rfl) rfl ?_
                  refine TL.run1 (pure_assign rfl) rfl ?_
                  refine TL.nil' ?_
                  first | refine TC.condD rfl (fun hc36 => ?_) (fun hc36 => ?_) | refine TC.condN rfl (fun hc36 => ?_) (fun hc36 => ?_) | refine TC.cond rfl (fun hc36 => ?_) (fun hc36 => ?_)
                  · try dsimp only at hc36
                    refine TC.seq ?_
                    refine TC.region ?_
                    refine TL.run1 (pure_assign rfl) rfl ?_
                    refine TL.nil' ?_
                    refine TC.ret ?_
                    refine block_ret ?_
                    refine then_ret ?_
                    exact ret_boolK rfl (by first | (simp only [bd]; simp_all; done) | (simp_all [bd]; done) | grind [bd])
                  · try dsimp only at hc36
                    refine TC.seq ?_
                    refine TC.region ?_
                    refine TL.run1 (pure_move rfl) rfl ?_
                    refine TL.run1 (pure_eql rfl rfl) rfl ?_
                    refine TL.run1 (pure_move rfl) rfl ?_
                    first | refine TL.splitP 52 rfl (fun hg52 => ?_) (fun hg52 => ?_) | refine TL.split 52 rfl (fun hg52 => ?_) (fun hg52 => ?_)
                    · try dsimp only at hg52
                      refine TL.runG rfl rfl (pure_move rfl) rfl ?_
                      refine TL.runG rfl rfl (pure_eql rfl rfl) rfl ?_
                      refine TL.run1 (pure_pick_true rfl rfl) rfl ?_
                      refine TL.run1 (pure_move rfl) rfl ?_
                      first | refine TL.splitP 56 rfl (fun hg56 => ?_) (fun hg56 => ?_) | refine TL.split 56 rfl (fun hg56 => ?_) (fun hg56 => ?_)
                      · try dsimp only at hg56
                        refine TL.runG rfl rfl (pure_move rfl) rfl ?_
                        first | refine TL.runG rfl rfl (pure_nilCheck rfl) rfl ?_ | refine TL.runG rfl rfl (pure_nilCheck_own rfl) rfl ?_
                        first | refine TL.runG rfl rfl (pure_fieldAddr Ty.f92_3 rfl (.succ (.succ (.succ (.zero _)))) (List.cons_ne_nil _ _)) rfl ?_ | refine TL.runG rfl rfl (pure_fieldAddr_own Ty.f92_3 rfl) rfl ?_
                        first | refine TL.runG rfl rfl (pure_load1 Ty.one3 rfl) rfl ?_ | refine TL.runG rfl rfl (pure_load1_own Ty.one3 rfl (by repeat (first | exact List.Mem.head _ | apply List.Mem.tail)) (by repeat (first | exact DropR.zero _ | apply DropR.succ))) rfl ?_
                        refine TL.runG rfl rfl (pure_rem rfl rfl (by omega) (by omega)) rfl ?_
                        refine TL.runG rfl rfl (pure_eql rfl rfl) rfl ?_
                        refine TL.run1 (pure_pick_true rfl rfl) rfl ?_
                        refine TL.run1 (pure_assign rfl) rfl ?_
                        refine TL.nil' ?_
                        first | refine TC.condD rfl (fun hc49 => ?_) (fun hc49 => ?_) | refine TC.condN rfl (fun hc49 => ?_) (fun hc49 => ?_) | refine TC.cond rfl (fun hc49 => ?_) (fun hc49 => ?_)
                        · try dsimp only at hc49
                          refine TC.seq ?_
                          refine TC.region ?_
                          refine TL.run1 (pure_assign rfl) rfl ?_
                          refine TL.nil' ?_
                          refine TC.ret ?_
                          refine block_ret ?_
                          refine then_ret ?_
                          exact ret_boolK rfl (by first | (simp only [bd]; simp_all; done) | (simp_all [bd]; done) | grind [bd])
                        · try dsimp only at hc49
                          refine TC.skip ?_
                          refine block_normal ?_
                          refine then_normal ?_
                          refine TC.seq ?_
                          refine TC.region ?_
                          refine TL.run1 (pure_assign rfl) rfl ?_
                          refine TL.nil' ?_
                          refine TC.ret ?_
                          exact ret_boolK rfl (by first | (simp only [bd]; simp_all; done) | (simp_all [bd]; done) | grind [bd])
                      · try dsimp only at hg56
                        refine TL.passG rfl rfl rfl rfl ?_
                        refine TL.passG rfl rfl rfl rfl ?_
                        refine TL.passG rfl rfl rfl rfl ?_
                        refine TL.passG rfl rfl rfl rfl ?_
                        refine TL.passG rfl rfl rfl rfl ?_
                        refine TL.passG rfl rfl rfl rfl ?_
                        refine TL.run1 (pure_pick_false rfl rfl) rfl ?_
                        refine TL.run1 (pure_assign rfl) rfl ?_
                        refine TL.nil' ?_
                        first | refine TC.condD rfl (fun hc49 => ?_) (fun hc49 => ?_) | refine TC.condN rfl (fun hc49 => ?_) (fun hc49 => ?_) | refine TC.cond rfl (fun hc49 => ?_) (fun hc49 => ?_)
                        · try dsimp only at hc49
                          refine TC.seq ?_
                          refine TC.region ?_
                          refine TL.run1 (pure_assign rfl) rfl ?_
                          refine TL.nil' ?_
                          refine TC.ret ?_
                          refine block_ret ?_
                          refine then_ret ?_
                          exact ret_boolK rfl (by first | (simp only [bd]; simp_all; done) | (simp_all [bd]; done) | grind [bd])
                        · try dsimp only at hc49
                          refine TC.skip ?_
                          refine block_normal ?_
                          refine then_normal ?_
                          refine TC.seq ?_
                          refine TC.region ?_
                          refine TL.run1 (pure_assign rfl) rfl ?_
                          refine TL.nil' ?_
                          refine TC.ret ?_
                          exact ret_boolK rfl (by first | (simp only [bd]; simp_all; done) | (simp_all [bd]; done) | grind [bd])
                    · try dsimp only at hg52
                      refine TL.passG rfl rfl rfl rfl ?_
                      refine TL.passG rfl rfl rfl rfl ?_
                      refine TL.run1 (pure_pick_false rfl rfl) rfl ?_
                      refine TL.run1 (pure_move rfl) rfl ?_
                      refine TL.passG rfl rfl rfl rfl ?_
                      refine TL.passG rfl rfl rfl rfl ?_
                      refine TL.passG rfl rfl rfl rfl ?_
                      refine TL.passG rfl rfl rfl rfl ?_
                      refine TL.passG rfl rfl rfl rfl ?_
                      refine TL.passG rfl rfl rfl rfl ?_
                      refine TL.run1 (pure_pick_false rfl rfl) rfl ?_
                      refine TL.run1 (pure_assign rfl) rfl ?_
                      refine TL.nil' ?_
                      first | refine TC.condD rfl (fun hc49 => ?_) (fun hc49 => ?_) | refine TC.condN rfl (fun hc49 => ?_) (fun hc49 => ?_) | refine TC.cond rfl (fun hc49 => ?_) (fun hc49 => ?_)
                      · try dsimp only at hc49
                        refine TC.seq ?_
                        refine TC.region ?_
                        refine TL.run1 (pure_assign rfl) rfl ?_
                        refine TL.nil' ?_
                        refine TC.ret ?_
                        refine block_ret ?_
                        refine then_ret ?_
                        exact ret_boolK rfl (by first | (simp only [bd]; simp_all; done) | (simp_all [bd]; done) | grind [bd])
                      · try dsimp only at hc49
                        refine TC.skip ?_
                        refine block_normal ?_
                        refine then_normal ?_
                        refine TC.seq ?_
                        refine TC.region ?_
                        refine TL.run1 (pure_assign rfl) rfl ?_
                        refine TL.nil' ?_
                        refine TC.ret ?_
                        exact ret_boolK rfl (by first | (simp only [bd]; simp_all; done) | (simp_all [bd]; done) | grind [bd])
            · try dsimp only at hc24
              refine TC.region ?_
              refine TL.run1 (pure_move rfl) rfl ?_
              refine TL.run1 (pure_eql rfl rfl) rfl ?_
              refine TL.run1 (pure_assign rfl) rfl ?_
              refine TL.nil' ?_
              first | refine TC.condD rfl (fun hc24 => ?_) (fun hc24 => ?_) | refine TC.condN rfl (fun hc24 => ?_) (fun hc24 => ?_) | refine TC.cond rfl (fun hc24 => ?_) (fun hc24 => ?_)
              · try dsimp only at hc24
                refine TC.seq ?_
                refine TC.region ?_
                refine TL.run1 (pure_assign rfl) rfl ?_
                refine TL.nil' ?_
                refine TC.ret ?_
                refine block_ret ?_
                refine then_ret ?_
                exact ret_boolK rfl (by first | (simp only [bd]; simp_all; done) | (simp_all [bd]; done) | grind [bd])
              · try dsimp only at hc24
                refine TC.seq ?_
                refine TC.region ?_
                refine TL.run1 (pure_move rfl) rfl ?_
                refine TL.run1 (pure_eql rfl rfl) rfl ?_
                refine TL.run1 (pure_move rfl) rfl ?_
                first | refine TL.splitP 39 rfl (fun hg39 => ?_) (fun hg39 => ?_) | refine TL.split 39 rfl (fun hg39 => ?_) (fun hg39 => ?_)
                · try dsimp only at hg39
                  refine TL.runG rfl rfl (pure_move rfl) rfl ?_
                  refine TL.runG rfl rfl (pure_eql rfl rfl) rfl ?_
                  refine TL.run1 (pure_pick_true rfl rfl) rfl ?_
                  refine TL.run1 (pure_move rfl) rfl ?_
                  first | refine TL.splitP 43 rfl (fun hg43 => ?_) (fun hg43 => ?_) | refine TL.split 43 rfl (fun hg43 => ?_) (fun hg43 => ?_)
                  · try dsimp only at hg43
                    refine TL.runG rfl rfl (pure_move rfl) rfl ?_
                    first | refine TL.runG rfl rfl (pure_nilCheck rfl) rfl ?_ | refine TL.runG rfl rfl (pure_nilCheck_own rfl) rfl ?_
                    first | refine TL.runG rfl rfl (pure_fieldAddr Ty.f92_2 rfl (.succ (.succ (.zero _))) (List.cons_ne_nil _ _)) rfl ?_ | refine TL.runG rfl rfl (pure_fieldAddr_own Ty.f92_2 rfl) rfl ?_
                    first | refine TL.runG rfl rfl (pure_load1 Ty.one4 rfl) rfl ?_ | refine TL.runG rfl rfl (pure_load1_own Ty.one4 rfl (by repeat (first | exact List.Mem.head _ | apply List.Mem.tail)) (by repeat (first | exact DropR.zero _ | apply DropR.succ))) rfl ?_
                    refine TL.run1 (pure_pick_true rfl rfl) rfl ?_
                    refine TL.run1 (pure_assign rfl) rfl ?_
                    refine TL.nil' ?_
                    first | refine TC.condD rfl (fun hc36 => ?_) (fun hc36 => ?_) | refine TC.condN rfl (fun hc36 => ?_) (fun hc36 => ?_) | refine TC.cond rfl (fun hc36 => ?_) (fun hc36 => ?_)
                    · try dsimp only at hc36
                      refine TC.seq ?_
                      refine TC.region ?_
                      refine TL.run1 (pure_assign rfl) rfl ?_
                      refine TL.nil' ?_
                      refine TC.ret ?_
                      refine block_ret ?_
                      refine then_ret ?_
                      exact ret_boolK rfl (by first | (simp only [bd]; simp_all; done) | (simp_all [bd]; done) | grind [bd])
                    · try dsimp only at hc36
                      refine TC.seq ?_
                      refine TC.region ?_
                      refine TL.run1 (pure_move rfl) rfl ?_
                      refine TL.run1 (pure_eql rfl rfl) rfl ?_
                      refine TL.run1 (pure_move rfl) rfl ?_
                      first | refine TL.splitP 52 rfl (fun hg52 => ?_) (fun hg52 => ?_) | refine TL.split 52 rfl (fun hg52 => ?_) (fun hg52 => ?_)
                      · try dsimp only at hg52
                        refine TL.runG rfl rfl (pure_move rfl) rfl ?_
                        refine TL.runG rfl rfl (pure_eql rfl rfl) rfl ?_
                        refine TL.run1 (pure_pick_true rfl rfl) rfl ?_
                        refine TL.run1 (pure_move rfl) rfl ?_
                        first | refine TL.splitP 56 rfl (fun hg56 => ?_) (fun hg56 => ?_) | refine TL.split 56 rfl (fun hg56 => ?_) (fun hg56 => ?_)
                        · try dsimp only at hg56
                          refine TL.runG rfl rfl (pure_move rfl) rfl ?_
                          first | refine TL.runG rfl rfl (pure_nilCheck rfl) rfl ?_ | refine TL.runG rfl rfl (pure_nilCheck_own rfl) rfl ?_
                          first | refine TL.runG rfl rfl (pure_fieldAddr Ty.f92_3 rfl (.succ (.succ (.succ (.zero _)))) (List.cons_ne_nil _ _)) rfl ?_ | refine TL.runG rfl rfl (pure_fieldAddr_own Ty.f92_3 rfl) rfl ?_
                          first | refine TL.runG rfl rfl (pure_load1 Ty.one3 rfl) rfl ?_ | refine TL.runG rfl rfl (pure_load1_own Ty.one3 rfl (by repeat (first | exact List.Mem.head _ | apply List.Mem.tail)) (by repeat (first | exact DropR.zero _ | apply DropR.succ))) rfl ?_
                          refine TL.runG rfl rfl (pure_rem rfl rfl (by omega) (by omega)) rfl ?_
                          refine TL.runG rfl rfl (pure_eql rfl rfl) rfl ?_
                          refine TL.run1 (pure_pick_true rfl rfl) rfl ?_
                          refine TL.run1 (pure_assign rfl) rfl ?_
                          refine TL.nil' ?_
                          first | refine TC.condD rfl (fun hc49 => ?_) (fun hc49 => ?_) | refine TC.condN rfl (fun hc49 => ?_) (fun hc49 => ?_) | refine TC.cond rfl (fun hc49 => ?_) (fun hc49 => ?_)
                          · try dsimp only at hc49
                            refine TC.seq ?_
                            refine TC.region ?_
                            refine TL.run1 (pure_assign rfl) rfl ?_
                            refine TL.nil' ?_
                            refine TC.ret ?_
                            refine block_ret ?_
                            refine then_ret ?_
                            exact ret_boolK rfl (by first | (simp only [bd]; simp_all; done) | (simp_all [bd]; done) | grind [bd])
                          · try dsimp only at hc49
                            refine TC.skip ?_
                            refine block_normal ?_
                            refine then_normal ?_
                            refine TC.seq ?_
                            refine TC.region ?_
                            refine TL.run1 (pure_assign rfl) rfl ?_
                            refine TL.nil' ?_
                            refine TC.ret ?_
                            exact ret_boolK rfl (by first | (simp only [bd]; simp_all; done) | (simp_all [bd]; done) | grind [bd])
                        · try dsimp only at hg56
                          refine TL.passG rfl rfl rfl rfl ?_
                          refine TL.passG rfl rfl rfl rfl ?_
                          refine TL.passG rfl rfl rfl rfl ?_
                          refine TL.passG rfl rfl rfl rfl ?_
                          refine TL.passG rfl rfl rfl rfl ?_
                          refine TL.passG rfl rfl rfl rfl ?_
                          refine TL.run1 (pure_pick_false rfl rfl) rfl ?_
                          refine TL.run1 (pure_assign rfl) rfl ?_
                          refine TL.nil' ?_
                          first | refine TC.condD rfl (fun hc49 => ?_) (fun hc49 => ?_) | refine TC.condN rfl (fun hc49 => ?_) (fun hc49 => ?_) | refine TC.cond rfl (fun hc49 => ?_) (fun hc49 => ?_)
                          · try dsimp only at hc49
                            refine TC.seq ?_
                            refine TC.region ?_
                            refine TL.run1 (pure_assign rfl) rfl ?_
                            refine TL.nil' ?_
                            refine TC.ret ?_
                            refine block_ret ?_
                            refine then_ret ?_
                            exact ret_boolK rfl (by first | (simp only [bd]; simp_all; done) | (simp_all [bd]; done) | grind [bd])
                          · try dsimp only at hc49
                            refine TC.skip ?_
                            refine block_normal ?_
                            refine then_normal ?_
                            refine TC.seq ?_
                            refine TC.region ?_
                            refine TL.run1 (pure_assign rfl) rfl ?_
                            refine TL.nil' ?_
                            refine TC.ret ?_
                            exact ret_boolK rfl (by first | (simp only [bd]; simp_all; done) | (simp_all [bd]; done) | grind [bd])
                      · try dsimp only at hg52
                        refine TL.passG rfl rfl rfl rfl ?_
                        refine TL.passG rfl rfl rfl rfl ?_
                        refine TL.run1 (pure_pick_false rfl rfl) rfl ?_
                        refine TL.run1 (pure_move rfl) rfl ?_
                        refine TL.passG rfl rfl rfl rfl ?_
                        refine TL.passG rfl rfl rfl rfl ?_
                        refine TL.passG rfl rfl rfl rfl ?_
                        refine TL.passG rfl rfl rfl rfl ?_
                        refine TL.passG rfl rfl rfl rfl ?_
                        refine TL.passG rfl rfl rfl rfl ?_
                        refine TL.run1 (pure_pick_false rfl rfl) rfl ?_
                        refine TL.run1 (pure_assign rfl) rfl ?_
                        refine TL.nil' ?_
                        first | refine TC.condD rfl (fun hc49 => ?_) (fun hc49 => ?_) | refine TC.condN rfl (fun hc49 => ?_) (fun hc49 => ?_) | refine TC.cond rfl (fun hc49 => ?_) (fun hc49 => ?_)
                        · try dsimp only at hc49
                          refine TC.seq ?_
                          refine TC.region ?_
                          refine TL.run1 (pure_assign rfl) rfl ?_
                          refine TL.nil' ?_
                          refine TC.ret ?_
                          refine block_ret ?_
                          refine then_ret ?_
                          exact ret_boolK rfl (by first | (simp only [bd]; simp_all; done) | (simp_all [bd]; done) | grind [bd])
                        · try dsimp only at hc49
                          refine TC.skip ?_
                          refine block_normal ?_
                          refine then_normal ?_
                          refine TC.seq ?_
                          refine TC.region ?_
                          refine TL.run1 (pure_assign rfl) rfl ?_
                          refine TL.nil' ?_
                          refine TC.ret ?_
                          exact ret_boolK rfl (by first | (simp only [bd]; simp_all; done) | (simp_all [bd]; done) | grind [bd])
                  · try dsimp only at hg43
                    refine TL.passG rfl rfl rfl rfl ?_
                    refine TL.passG rfl rfl rfl rfl ?_
                    refine TL.passG rfl rfl rfl rfl ?_
                    refine TL.passG rfl rfl rfl rfl ?_
                    refine TL.run1 (pure_pick_false rfl rfl) rfl ?_
                    refine TL.run1 (pure_assign rfl) rfl ?_
                    refine TL.nil' ?_
                    first | refine TC.condD rfl (fun hc36 => ?_) (fun hc36 => ?_) | refine TC.condN rfl (fun hc36 => ?_) (fun hc36 => ?_) | refine TC.cond rfl (fun hc36 => ?_) (fun hc36 => ?_)
                    · try dsimp only at hc36
                      refine TC.seq ?_
                      refine TC.region ?_
                      refine TL.run1 (pure_assign rfl) rfl ?_
                      refine TL.nil' ?_
                      refine TC.ret ?_
                      refine block_ret ?_
                      refine then_ret ?_
                      exact ret_boolK rfl (by first | (simp only [bd]; simp_all; done) | (simp_all [bd]; done) | grind [bd])
                    · try dsimp only at hc36
                      refine TC.seq ?_
                      refine TC.region ?_
                      refine TL.run1 (pure_move rfl) rfl ?_
                      refine TL.run1 (pure_eql rfl rfl) rfl ?_
                      refine TL.run1 (pure_move rfl) rfl ?_
                      first | refine TL.splitP 52 rfl (fun hg52 => ?_) (fun hg52 => ?_) | refine TL.split 52 rfl (fun hg52 => ?_) (fun hg52 => ?_)
                      · try dsimp only at hg52
                        refine TL.runG rfl rfl (pure_move rfl) rfl ?_
                        refine TL.runG rfl rfl (pure_eql rfl rfl) rfl ?_
                        refine TL.run1 (pure_pick_true rfl rfl) rfl ?_
                        refine TL.run1 (pure_move rfl) rfl ?_
                        first | refine TL.splitP 56 rfl (fun hg56 => ?_) (fun hg56 => ?_) | refine TL.split 56 rfl (fun hg56 => ?_) (fun hg56 => ?_)
                        · try dsimp only at hg56
                          refine TL.runG rfl rfl (pure_move rfl) rfl ?_
                          first | refine TL.runG rfl rfl (pure_nilCheck rfl) rfl ?_ | refine TL.runG rfl rfl (pure_nilCheck_own rfl) rfl ?_
                          first | refine TL.runG rfl rfl (pure_fieldAddr Ty.f92_3 rfl (.succ (.succ (.succ (.zero _)))) (List.cons_ne_nil _ _)) rfl ?_ | refine TL.runG rfl rfl (pure_fieldAddr_own Ty.f92_3 rfl) rfl ?_
                          first | refine TL.runG rfl rfl (pure_load1 Ty.one3 rfl) rfl ?_ | refine TL.runG rfl rfl (pure_load1_own Ty.one3 rfl (by repeat (first | exact List.Mem.head _ | apply List.Mem.tail)) (by repeat (first | exact DropR.zero _ | apply DropR.succ))) rfl ?_
                          refine TL.runG rfl rfl (pure_rem rfl rfl (by omega) (by omega)) rfl ?_
                          refine TL.runG rfl rfl (pure_eql rfl rfl) rfl ?_
                          refine TL.run1 (pure_pick_true rfl rfl) rfl ?_
                          refine TL.run1 (pure_assign rfl) rfl ?_
                          refine TL.nil' ?_
                          first | refine TC.condD rfl (fun hc49 => ?_) (fun hc49 => ?_) | refine TC.condN rfl (fun hc49 => ?_) (fun hc49 => ?_) | refine TC.cond rfl (fun hc49 => ?_) (fun hc49 => ?_)
                          · try dsimp only at hc49
                            refine TC.seq ?_
                            refine TC.region ?_
                            refine TL.run1 (pure_assign rfl) rfl ?_
                            refine TL.nil' ?_
                            refine TC.ret ?_
                            refine block_ret ?_
                            refine then_ret ?_
                            exact ret_boolK rfl (by first | (simp only [bd]; simp_all; done) | (simp_all [bd]; done) | grind [bd])
                          · try dsimp only at hc49
                            refine TC.skip ?_
                            refine block_normal ?_
                            refine then_normal ?_
                            refine TC.seq ?_
                            refine TC.region ?_
                            refine TL.run1 (pure_assign rfl) rfl ?_
                            refine TL.nil' ?_
                            refine TC.ret ?_
                            exact ret_boolK rfl (by first | (simp only [bd]; simp_all; done) | (simp_all [bd]; done) | grind [bd])
                        · try dsimp only at hg56
                          refine TL.passG rfl rfl rfl rfl ?_
                          refine TL.passG rfl rfl rfl rfl ?_
                          refine TL.passG rfl rfl rfl rfl ?_
                          refine TL.passG rfl rfl rfl rfl ?_
                          refine TL.passG rfl rfl rfl rfl ?_
                          refine TL.passG rfl rfl rfl rfl ?_
                          refine TL.run1 (pure_pick_false rfl rfl) rfl ?_
                          refine TL.run1 (pure_assign rfl) rfl ?_
                          refine TL.nil' ?_
                          first | refine TC.condD rfl (fun hc49 => ?_) (fun hc49 => ?_) | refine TC.condN rfl (fun hc49 => ?_) (fun hc49 => ?_) | refine TC.cond rfl (fun hc49 => ?_) (fun hc49 => ?_)
                          · try dsimp only at hc49
                            refine TC.seq ?_
                            refine TC.region ?_
                            refine TL.run1 (pure_assign rfl) rfl ?_
                            refine TL.nil' ?_
                            refine TC.ret ?_
                            refine block_ret ?_
                            refine then_ret ?_
                            exact ret_boolK rfl (by first | (simp only [bd]; simp_all; done) | (simp_all [bd]; done) | grind [bd])
                          · try dsimp only at hc49
                            refine TC.skip ?_
                            refine block_normal ?_
                            refine then_normal ?_
                            refine TC.seq ?_
                            refine TC.region ?_
                            refine TL.run1 (pure_assign rfl) rfl ?_
                            refine TL.nil' ?_
                            refine TC.ret ?_
                            exact ret_boolK rfl (by first | (simp only [bd]; simp_all; done) | (simp_all [bd]; done) | grind [bd])
                      · try dsimp only at hg52
                        refine TL.passG rfl rfl rfl rfl ?_
                        refine TL.passG rfl rfl rfl rfl ?_
                        refine TL.run1 (pure_pick_false rfl rfl) rfl ?_
                        refine TL.run1 (pure_move rfl) rfl ?_
                        refine TL.passG rfl rfl rfl rfl ?_
                        refine TL.passG rfl rfl rfl rfl ?_
                        refine TL.passG rfl rfl rfl rfl ?_
                        refine TL.passG rfl rfl rfl rfl ?_
                        refine TL.passG rfl rfl rfl rfl ?_
                        refine TL.passG rfl rfl rfl rfl ?_
                        refine TL.run1 (pure_pick_false rfl rfl) rfl ?_
                        refine TL.run1 (pure_assign rfl) rfl ?_
                        refine TL.nil' ?_
                        first | refine TC.condD rfl (fun hc49 => ?_) (fun hc49 => ?_) | refine TC.condN rfl (fun hc49 => ?_) (fun hc49 => ?_) | refine TC.cond rfl (fun hc49 => ?_) (fun hc49 => ?_)
                        · try dsimp only at hc49
                          refine TC.seq ?_
                          refine TC.region ?_
                          refine TL.run1 (pure_assign rfl) rfl ?_
                          refine TL.nil' ?_
                          refine TC.ret ?_
                          refine block_ret ?_
                          refine then_ret ?_
                          exact ret_boolK rfl (by first | (simp only [bd]; simp_all; done) | (simp_all [bd]; done) | grind [bd])
                        · try dsimp only at hc49
                          refine TC.skip ?_
                          refine block_normal ?_
                          refine then_normal ?_
                          refine TC.seq ?_
                          refine TC.region ?_
                          refine TL.run1 (pure_assign rfl) rfl ?_
                          refine TL.nil' ?_
                          refine TC.ret ?_
                          exact ret_boolK rfl (by first | (simp only [bd]; simp_all; done) | (simp_all [bd]; done) | grind [bd])
                · try dsimp only at hg39
                  refine TL.passG rfl rfl rfl rfl ?_
                  refine TL.passG rfl rfl rfl rfl ?_
                  refine TL.run1 (pure_pick_false rfl rfl) rfl ?_
                  refine TL.run1 (pure_move rfl) rfl ?_
                  refine TL.passG rfl rfl rfl rfl ?_
                  refine TL.passG rfl rfl rfl rfl ?_
                  refine TL.passG rfl rfl rfl rfl ?_
                  refine TL.passG rfl rfl rfl rfl ?_
                  refine TL.run1 (pure_pick_false rfl rfl) rfl ?_
                  refine TL.run1 (pure_assign rfl) rfl ?_
                  refine TL.nil' ?_
                  first | refine TC.condD rfl (fun hc36 => ?_) (fun hc36 => ?_) | refine TC.condN rfl (fun hc36 => ?_) (fun hc36 => ?_) | refine TC.cond rfl (fun hc36 => ?_) (fun hc36 => ?_)
                  · try dsimp only at hc36
                    refine TC.seq ?_
                    refine TC.region ?_
                    refine TL.run1 (pure_assign rfl) rfl ?_
                    refine TL.nil' ?_
                    refine TC.ret ?_
                    refine block_ret ?_
                    refine then_ret ?_
                    exact ret_boolK rfl (by first | (simp only [bd]; simp_all; done) | (simp_all [bd]; done) | grind [bd])
                  · try dsimp only at hc36
                    refine TC.seq ?_
                    refine TC.region ?_
                    refine TL.run1 (pure_move rfl) rfl ?_
                    refine TL.run1 (pure_eql rfl rfl) rfl ?_
                    refine TL.run1 (pure_move rfl) rfl ?_
                    first | refine TL.splitP 52 rfl (fun hg52 => ?_) (fun hg52 => ?_) | refine TL.split 52 rfl (fun hg52 => ?_) (fun hg52 => ?_)
                    · try dsimp only at hg52
                      refine TL.runG rfl rfl (pure_move rfl) rfl ?_
                      refine TL.runG rfl rfl (pure_eql rfl rfl) rfl ?_
                      refine TL.run1 (pure_pick_true rfl rfl) rfl ?_
                      refine TL.run1 (pure_move rfl) rfl ?_
                      first | refine TL.splitP 56 rfl (fun hg56 => ?_) (fun hg56 => ?_) | refine TL.split 56 rfl (fun hg56 => ?_) (fun hg56 => ?_)
                      · try dsimp only at hg56
                        refine TL.runG rfl rfl (pure_move rfl) rfl ?_
                        first | refine TL.runG rfl rfl (pure_nilCheck rfl) rfl ?_ | refine TL.runG rfl rfl (pure_nilCheck_own rfl) rfl ?_
                        first | refine TL.runG rfl rfl (pure_fieldAddr Ty.f92_3 rfl (.succ (.succ (.succ (.zero _)))) (List.cons_ne_nil _ _)) rfl ?_ | refine TL.runG rfl rfl (pure_fieldAddr_own Ty.f92_3 rfl) rfl ?_
                        first | refine TL.runG rfl rfl (pure_load1 Ty.one3 rfl) rfl ?_ | refine TL.runG rfl rfl (pure_load1_own Ty.one3 rfl (by repeat (first | exact List.Mem.head _ | apply List.Mem.tail)) (by repeat (first | exact DropR.zero _ | apply DropR.succ))) rfl ?_
                        refine TL.runG rfl rfl (pure_rem rfl rfl (by omega) (by omega)) rfl ?_
                        refine TL.runG rfl rfl (pure_eql rfl rfl) rfl ?_
                        refine TL.run1 (pure_pick_true rfl rfl) rfl ?_
                        refine TL.run1 (pure_assign rfl) rfl ?_
                        refine TL.nil' ?_
                        first | refine TC.condD rfl (fun hc49 => ?_) (fun hc49 => ?_) | refine TC.condN rfl (fun hc49 => ?_) (fun hc49 => ?_) | refine TC.cond rfl (fun hc49 => ?_) (fun hc49 => ?_)
                        · try dsimp only at hc49
                          refine TC.seq ?_
                          refine TC.region ?_
                          refine TL.run1 (pure_assign rfl) rfl ?_
                          refine TL.nil' ?_
                          refine TC.ret ?_
                          refine block_ret ?_
                          refine then_ret ?_
                          exact ret_boolK rfl (by first | (simp only [bd]; simp_all; done) | (simp_all [bd]; done) | grind [bd])
                        · try dsimp only at hc49
                          refine TC.skip ?_
                          refine block_normal ?_
                          refine then_normal ?_
                          refine TC.seq ?_
                          refine TC.region ?_
                          refine TL.run1 (pure_assign rfl) rfl ?_
                          refine TL.nil' ?_
                          refine TC.ret ?_
                          exact ret_boolK rfl (by first | (simp only [bd]; simp_all; done) | (simp_all [bd]; done) | grind [bd])
                      · try dsimp only at hg56
                        refine TL.passG rfl rfl rfl rfl ?_
                        refine TL.passG rfl rfl rfl rfl ?_
                        refine TL.passG rfl rfl rfl rfl ?_
                        refine TL.passG rfl rfl rfl rfl ?_
                        refine TL.passG rfl rfl rfl rfl ?_
                        refine TL.passG rfl rfl rfl rfl ?_
                        refine TL.run1 (pure_pick_false rfl rfl) rfl ?_
                        refine TL.run1 (pure_assign rfl) rfl ?_
                        refine TL.nil' ?_
                        first | refine TC.condD rfl (fun hc49 => ?_) (fun hc49 => ?_) | refine TC.condN rfl (fun hc49 => ?_) (fun hc49 => ?_) | refine TC.cond rfl (fun hc49 => ?_) (fun hc49 => ?_)
                        · try dsimp only at hc49
                          refine TC.seq ?_
                          refine TC.region ?_
                          refine TL.run1 (pure_assign rfl) rfl ?_
                          refine TL.nil' ?_
                          refine TC.ret ?_
                          refine block_ret ?_
                          refine then_ret ?_
                          exact ret_boolK rfl (by first | (simp only [bd]; simp_all; done) | (simp_all [bd]; done) | grind [bd])
                        · try dsimp only at hc49
                          refine TC.skip ?_
                          refine block_normal ?_
                          refine then_normal ?_
                          refine TC.seq ?_
                          refine TC.region ?_
                          refine TL.run1 (pure_assign rfl) rfl ?_
                          refine TL.nil' ?_
                          refine TC.ret ?_
                          exact ret_boolK rfl (by first | (simp only [bd]; simp_all; done) | (simp_all [bd]; done) | grind [bd])
                    · try dsimp only at hg52
                      refine TL.passG rfl rfl rfl rfl ?_
                      refine TL.passG rfl rfl rfl rfl ?_
                      refine TL.run1 (pure_pick_false rfl rfl) rfl ?_
                      refine TL.run1 (pure_move rfl) rfl ?_
                      refine TL.passG rfl rfl rfl rfl ?_
                      refine TL.passG rfl rfl rfl rfl ?_
                      refine TL.passG rfl rfl rfl rfl ?_
                      refine TL.passG rfl rfl rfl rfl ?_
                      refine TL.passG rfl rfl rfl rfl ?_
                      refine TL.passG rfl rfl rfl rfl ?_
                      refine TL.run1 (pure_pick_false rfl rfl) rfl ?_
                      refine TL.run1 (pure_assign rfl) rfl ?_
                      refine TL.nil' ?_
                      first | refine TC.condD rfl (fun hc49 => ?_) (fun hc49 => ?_) | refine TC.condN rfl (fun hc49 => ?_) (fun hc49 => ?_) | refine TC.cond rfl (fun hc49 => ?_) (fun hc49 => ?_)
                      · try dsimp only at hc49
                        refine TC.seq ?_
                        refine TC.region ?_
                        refine TL.run1 (pure_assign rfl) rfl ?_
                        refine TL.nil' ?_
                        refine TC.ret ?_
                        refine block_ret ?_
                        refine then_ret ?_
                        exact ret_boolK rfl (by first | (simp only [bd]; simp_all; done) | (simp_all [bd]; done) | grind [bd])
                      · try dsimp only at hc49
                        refine TC.skip ?_
                        refine block_normal ?_
                        refine then_normal ?_
                        refine TC.seq ?_
                        refine TC.region ?_
                        refine TL.run1 (pure_assign rfl) rfl ?_
                        refine TL.nil' ?_
                        refine TC.ret ?_
                        exact ret_boolK rfl (by first | (simp only [bd]; simp_all; done) | (simp_all [bd]; done) | grind [bd])
set_option maxRecDepth 100000 in
theorem take_spec (m : MS) (c : Int) (g : Nat) (hr0 : 0 ≤ m.reg) (hr1 : m.reg ≤ 1000000000000) : CallD Tryd.prog 55 [.v (.pointer (some ⟨g, 0, none⟩)), .v (.int .i64 c)] [.box g 92 (encM m)] (fun r H' => r = .tup [] ∧ H' = [.box g 92 (encM (stepM m c))]) := by
  refine CallD.enter (n := 46) (rs := []) Tryd.func55 rfl Tryd.ntmps55 Tryd.results55 rfl (fun w F => ?_)
  refine TC.seq ?_
  refine TC.region ?_
  refine TL.run1 (pure_move rfl) rfl ?_
  refine TL.run1 (pure_move rfl) rfl ?_
  refine TL.run1 (pure_eql rfl rfl) rfl ?_
  refine TL.run1 (pure_move rfl) rfl ?_
  first | refine TL.splitP 7 rfl (fun hg7 => ?_) (fun hg7 => ?_) | refine TL.split 7 rfl (fun hg7 => ?_) (fun hg7 => ?_)
  · try dsimp only at hg7
    refine TL.runG rfl rfl (pure_move rfl) rfl ?_
    first | refine TL.runG rfl rfl (pure_nilCheck rfl) rfl ?_ | refine TL.runG rfl rfl (pure_nilCheck_own rfl) rfl ?_
    first | refine TL.runG rfl rfl (pure_fieldAddr Ty.f92_1 rfl (.succ (.zero _)) (List.cons_ne_nil _ _)) rfl ?_ | refine TL.runG rfl rfl (pure_fieldAddr_own Ty.f92_1 rfl) rfl ?_
    first | refine TL.runG rfl rfl (pure_load1 Ty.one4 rfl) rfl ?_ | refine TL.runG rfl rfl (pure_load1_own Ty.one4 rfl (by repeat (first | exact List.Mem.head _ | apply List.Mem.tail)) (by repeat (first | exact DropR.zero _ | apply DropR.succ))) rfl ?_
    refine TL.run1 (pure_pick_true rfl rfl) rfl ?_
    first | refine TL.run1 (pure_nilCheck rfl) rfl ?_ | refine TL.run1 (pure_nilCheck_own rfl) rfl ?_
    first | refine TL.run1 (pure_fieldAddr Ty.f92_2 rfl (.succ (.succ (.zero _))) (List.cons_ne_nil _ _)) rfl ?_ | refine TL.run1 (pure_fieldAddr_own Ty.f92_2 rfl) rfl ?_
    refine TL.store rfl rfl (.one (by first | rfl | assumption)) Tryd.sizeOf4 rfl (by repeat (first | exact UpdR.here _ | apply UpdR.there)) (by repeat (first | exact PutR.nil _ | apply PutR.here | apply PutR.skip)) ?_
    refine TL.nil' ?_
    refine TC.seq ?_
    refine TC.region ?_
    refine TL.run1 (pure_move rfl) rfl ?_
    refine TL.run1 (pure_move rfl) rfl ?_
    refine TL.run1 (pure_eql rfl rfl) rfl ?_
    refine TL.run1 (pure_move rfl) rfl ?_
    first | refine TL.splitP 18 rfl (fun hg18 => ?_) (fun hg18 => ?_) | refine TL.split 18 rfl (fun hg18 => ?_) (fun hg18 => ?_)
    · try dsimp only at hg18
      refine TL.passG rfl rfl rfl rfl ?_
      refine TL.passG rfl rfl rfl rfl ?_
      refine TL.passG rfl rfl rfl rfl ?_
      refine TL.passG rfl rfl rfl rfl ?_
      refine TL.passG rfl rfl rfl rfl ?_
      refine TL.passG rfl rfl rfl rfl ?_
      refine TL.passG rfl rfl rfl rfl ?_
      refine TL.passG rfl rfl rfl rfl ?_
      refine TL.run1 (pure_pick_true rfl rfl) rfl ?_
      first | refine TL.run1 (pure_nilCheck rfl) rfl ?_ | refine TL.run1 (pure_nilCheck_own rfl) rfl ?_
      first | refine TL.run1 (pure_fieldAddr Ty.f92_1 rfl (.succ (.zero _)) (List.cons_ne_nil _ _)) rfl ?_ | refine TL.run1 (pure_fieldAddr_own Ty.f92_1 rfl) rfl ?_
      refine TL.store rfl rfl (.one (by first | rfl | assumption)) Tryd.sizeOf4 rfl (by repeat (first | exact UpdR.here _ | apply UpdR.there)) (by repeat (first | exact PutR.nil _ | apply PutR.here | apply PutR.skip)) ?_
      refine TL.nil' ?_
      refine TC.seq ?_
      refine TC.seq ?_
      refine TC.region ?_
      refine TL.run1 (pure_move rfl) rfl ?_
      refine TL.run1 (pure_eql rfl rfl) rfl ?_
      refine TL.nil' ?_
      first | refine TC.condD rfl (fun hc31 => ?_) (fun hc31 => ?_) | refine TC.condN rfl (fun hc31 => ?_) (fun hc31 => ?_) | refine TC.cond rfl (fun hc31 => ?_) (fun hc31 => ?_)
      · try dsimp only at hc31
        refine TC.region ?_
        refine TL.run1 (pure_move rfl) rfl ?_
        first | refine TL.run1 (pure_nilCheck rfl) rfl ?_ | refine TL.run1 (pure_nilCheck_own rfl) rfl ?_
        first | refine TL.run1 (pure_fieldAddr Ty.f92_3 rfl (.succ (.succ (.succ (.zero _)))) (List.cons_ne_nil _ _)) rfl ?_ | refine TL.run1 (pure_fieldAddr_own Ty.f92_3 rfl) rfl ?_
        first | refine TL.run1 (pure_load1 Ty.one3 rfl) rfl ?_ | refine TL.run1 (pure_load1_own Ty.one3 rfl (by repeat (first | exact List.Mem.head _ | apply List.Mem.tail)) (by repeat (first | exact DropR.zero _ | apply DropR.succ))) rfl ?_
        refine TL.run1 (pure_add rfl rfl (mkI64 (by omega) (by omega))) rfl ?_
        first | refine TL.run1 (pure_nilCheck rfl) rfl ?_ | refine TL.run1 (pure_nilCheck_own rfl) rfl ?_
        first | refine TL.run1 (pure_fieldAddr Ty.f92_3 rfl (.succ (.succ (.succ (.zero _)))) (List.cons_ne_nil _ _)) rfl ?_ | refine TL.run1 (pure_fieldAddr_own Ty.f92_3 rfl) rfl ?_
        refine TL.store rfl rfl (.one (by first | rfl | assumption)) Tryd.sizeOf3 rfl (by repeat (first | exact UpdR.here _ | apply UpdR.there)) (by repeat (first | exact PutR.nil _ | apply PutR.here | apply PutR.skip)) ?_
        refine TL.nil' ?_
        refine TC.region ?_
        refine TL.run1 (pure_move rfl) rfl ?_
        refine TL.run1 (pure_move rfl) rfl ?_
        first | refine TL.run1 (pure_nilCheck rfl) rfl ?_ | refine TL.run1 (pure_nilCheck_own rfl) rfl ?_
        first | refine TL.run1 (pure_fieldAddr Ty.f92_0 rfl (.zero _) (List.cons_ne_nil _ _)) rfl ?_ | refine TL.run1 (pure_fieldAddr_own Ty.f92_0 rfl) rfl ?_
        refine TL.store rfl rfl (.one (by first | rfl | assumption)) Tryd.sizeOf3 rfl (by repeat (first | exact UpdR.here _ | apply UpdR.there)) (by repeat (first | exact PutR.nil _ | apply PutR.here | apply PutR.skip)) ?_
        refine TL.nil ?_
        exact ret_unitBox (.inr rfl) (by simp only [encM, stepM, List.cons.injEq, D.v.injEq, Value.bool.injEq, Value.int.injEq]; simp_all)
      · try dsimp only at hc31
        refine TC.region ?_
        refine TL.run1 (pure_move rfl) rfl ?_
        first | refine TL.run1 (pure_nilCheck rfl) rfl ?_ | refine TL.run1 (pure_nilCheck_own rfl) rfl ?_
        first | refine TL.run1 (pure_fieldAddr Ty.f92_3 rfl (.succ (.succ (.succ (.zero _)))) (List.cons_ne_nil _ _)) rfl ?_ | refine TL.run1 (pure_fieldAddr_own Ty.f92_3 rfl) rfl ?_
        refine TL.store rfl rfl (.one (by first | rfl | assumption)) Tryd.sizeOf3 rfl (by repeat (first | exact UpdR.here _ | apply UpdR.there)) (by repeat (first | exact PutR.nil _ | apply PutR.here | apply PutR.skip)) ?_
        refine TL.nil' ?_
        refine TC.region ?_
        refine TL.run1 (pure_move rfl) rfl ?_
        refine TL.run1 (pure_move rfl) rfl ?_
        first | refine TL.run1 (pure_nilCheck rfl) rfl ?_ | refine TL.run1 (pure_nilCheck_own rfl) rfl ?_
        first | refine TL.run1 (pure_fieldAddr Ty.f92_0 rfl (.zero _) (List.cons_ne_nil _ _)) rfl ?_ | refine TL.run1 (pure_fieldAddr_own Ty.f92_0 rfl) rfl ?_
        refine TL.store rfl rfl (.one (by first | rfl | assumption)) Tryd.sizeOf3 rfl (by repeat (first | exact UpdR.here _ | apply UpdR.there)) (by repeat (first | exact PutR.nil _ | apply PutR.here | apply PutR.skip)) ?_
        refine TL.nil ?_
        exact ret_unitBox (.inr rfl) (by simp only [encM, stepM, List.cons.injEq, D.v.injEq, Value.bool.injEq, Value.int.injEq]; simp_all)
    · try dsimp only at hg18
      refine TL.runG rfl rfl (pure_move rfl) rfl ?_
      refine TL.runG rfl rfl (pure_eql rfl rfl) rfl ?_
      refine TL.runG rfl rfl (pure_move rfl) rfl ?_
      first | refine TL.splitP 21 rfl (fun hg21 => ?_) (fun hg21 => ?_) | refine TL.split 21 rfl (fun hg21 => ?_) (fun hg21 => ?_)
      · try dsimp only at hg21
        refine TL.runG rfl rfl (pure_move rfl) rfl ?_
        first | refine TL.runG rfl rfl (pure_nilCheck rfl) rfl ?_ | refine TL.runG rfl rfl (pure_nilCheck_own rfl) rfl ?_
        first | refine TL.runG rfl rfl (pure_fieldAddr Ty.f92_1 rfl (.succ (.zero _)) (List.cons_ne_nil _ _)) rfl ?_ | refine TL.runG rfl rfl (pure_fieldAddr_own Ty.f92_1 rfl) rfl ?_
        first | refine TL.runG rfl rfl (pure_load1 Ty.one4 rfl) rfl ?_ | refine TL.runG rfl rfl (pure_load1_own Ty.one4 rfl (by repeat (first | exact List.Mem.head _ | apply List.Mem.tail)) (by repeat (first | exact DropR.zero _ | apply DropR.succ))) rfl ?_
        refine TL.runG rfl rfl (pure_pick_true rfl rfl) rfl ?_
        refine TL.run1 (pure_pick_false rfl rfl) rfl ?_
        first | refine TL.run1 (pure_nilCheck rfl) rfl ?_ | refine TL.run1 (pure_nilCheck_own rfl) rfl ?_
        first | refine TL.run1 (pure_fieldAddr Ty.f92_1 rfl (.succ (.zero _)) (List.cons_ne_nil _ _)) rfl ?_ | refine TL.run1 (pure_fieldAddr_own Ty.f92_1 rfl) rfl ?_
        refine TL.store rfl rfl (.one (by first | rfl | assumption)) Tryd.sizeOf4 rfl (by repeat (first | exact UpdR.here _ | apply UpdR.there)) (by repeat (first | exact PutR.nil _ | apply PutR.here | apply PutR.skip)) ?_
        refine TL.nil' ?_
        refine TC.seq ?_
        refine TC.seq ?_
        refine TC.region ?_
        refine TL.run1 (pure_move rfl) rfl ?_
        refine TL.run1 (pure_eql rfl rfl) rfl ?_
        refine TL.nil' ?_
        first | refine TC.condD rfl (fun hc31 => ?_) (fun hc31 => ?_) | refine TC.condN rfl (fun hc31 => ?_) (fun hc31 => ?_) | refine TC.cond rfl (fun hc31 => ?_) (fun hc31 => ?_)
        · try dsimp only at hc31
          refine TC.region ?_
          refine TL.run1 (pure_move rfl) rfl ?_
          first | refine TL.run1 (pure_nilCheck rfl) rfl ?_ | refine TL.run1 (pure_nilCheck_own rfl) rfl ?_
          first | refine TL.run1 (pure_fieldAddr Ty.f92_3 rfl (.succ (.succ (.succ (.zero _)))) (List.cons_ne_nil _ _)) rfl ?_ | refine TL.run1 (pure_fieldAddr_own Ty.f92_3 rfl) rfl ?_
          first | refine TL.run1 (pure_load1 Ty.one3 rfl) rfl ?_ | refine TL.run1 (pure_load1_own Ty.one3 rfl (by repeat (first | exact List.Mem.head _ | apply List.Mem.tail)) (by repeat (first | exact DropR.zero _ | apply DropR.succ))) rfl ?_
          refine TL.run1 (pure_add rfl rfl (mkI64 (by omega) (by omega))) rfl ?_
          first | refine TL.run1 (pure_nilCheck rfl) rfl ?_ | refine TL.run1 (pure_nilCheck_own rfl) rfl ?_
          first | refine TL.run1 (pure_fieldAddr Ty.f92_3 rfl (.succ (.succ (.succ (.zero _)))) (List.cons_ne_nil _ _)) rfl ?_ | refine TL.run1 (pure_fieldAddr_own Ty.f92_3 rfl) rfl ?_
          refine TL.store rfl rfl (.one (by first | rfl | assumption)) Tryd.sizeOf3 rfl (by repeat (first | exact UpdR.here _ | apply UpdR.there)) (by repeat (first | exact PutR.nil _ | apply PutR.here | apply PutR.skip)) ?_
          refine TL.nil' ?_
          refine TC.region ?_
          refine TL.run1 (pure_move rfl) rfl ?_
          refine TL.run1 (pure_move rfl) rfl ?_
          first | refine TL.run1 (pure_nilCheck rfl) rfl ?_ | refine TL.run1 (pure_nilCheck_own rfl) rfl ?_
          first | refine TL.run1 (pure_fieldAddr Ty.f92_0 rfl (.zero _) (List.cons_ne_nil _ _)) rfl ?_ | refine TL.run1 (pure_fieldAddr_own Ty.f92_0 rfl) rfl ?_
          refine TL.store rfl rfl (.one (by first | rfl | assumption)) Tryd.sizeOf3 rfl (by repeat (first | exact UpdR.here _ | apply UpdR.there)) (by repeat (first | exact PutR.nil _ | apply PutR.here | apply PutR.skip)) ?_
          refine TL.nil ?_
          exact ret_unitBox (.inr rfl) (by simp only [encM, stepM, List.cons.injEq, D.v.injEq, Value.bool.injEq, Value.int.injEq]; simp_all)
        · try dsimp only at hc31
          refine TC.region ?_
          refine TL.run1 (pure_move rfl) rfl ?_
          first | refine TL.run1 (pure_nilCheck rfl) rfl ?_ | refine TL.run1 (pure_nilCheck_own rfl) rfl ?_
          first | refine TL.run1 (pure_fieldAddr Ty.f92_3 rfl (.succ (.succ (.succ (.zero _)))) (List.cons_ne_nil _ _)) rfl ?_ | refine TL.run1 (pure_fieldAddr_own Ty.f92_3 rfl) rfl ?_
          refine TL.store rfl rfl (.one (by first | rfl | assumption)) Tryd.sizeOf3 rfl (by repeat (first | exact UpdR.here _ | apply UpdR.there)) (by repeat (first | exact PutR.nil _ | apply PutR.here | apply PutR.skip)) ?_
          refine TL.nil' ?_
          refine TC.region ?_
          refine TL.run1 (pure_move rfl) rfl ?_
          refine TL.run1 (pure_move rfl) rfl ?_
          first | refine TL.run1 (pure_nilCheck rfl) rfl ?_ | refine TL.run1 (pure_nilCheck_own rfl) rfl ?_
          first | refine TL.run1 (pure_fieldAddr Ty.f92_0 rfl (.zero _) (List.cons_ne_nil _ _)) rfl ?_ | refine TL.run1 (pure_fieldAddr_own Ty.f92_0 rfl) rfl ?_
          refine TL.store rfl rfl (.one (by first | rfl | assumption)) Tryd.sizeOf3 rfl (by repeat (first | exact UpdR.here _ | apply UpdR.there)) (by repeat (first | exact PutR.nil _ | apply PutR.here | apply PutR.skip)) ?_
          refine TL.nil ?_
          exact ret_unitBox (.inr rfl) (by simp only [encM, stepM, List.cons.injEq, D.v.injEq, Value.bool.injEq, Value.int.injEq]; simp_all)
      · try dsimp only at hg21
        refine TL.passG rfl rfl rfl rfl ?_
        refine TL.passG rfl rfl rfl rfl ?_
        refine TL.passG rfl rfl rfl rfl ?_
        refine TL.passG rfl rfl rfl rfl ?_
        refine TL.runG rfl rfl (pure_pick_false rfl rfl) rfl ?_
        refine TL.run1 (pure_pick_false rfl rfl) rfl ?_
        first | refine TL.run1 (pure_nilCheck rfl) rfl ?_ | refine TL.run1 (pure_nilCheck_own rfl) rfl ?_
        first | refine TL.run1 (pure_fieldAddr Ty.f92_1 rfl (.succ (.zero _)) (List.cons_ne_nil _ _)) rfl ?_ | refine TL.run1 (pure_fieldAddr_own Ty.f92_1 rfl) rfl ?_
        refine TL.store rfl rfl (.one (by first | rfl | assumption)) Tryd.sizeOf4 rfl (by repeat (first | exact UpdR.here _ | apply UpdR.there)) (by repeat (first | exact PutR.nil _ | apply PutR.here | apply PutR.skip)) ?_
        refine TL.nil' ?_
        refine TC.seq ?_
        refine TC.seq ?_
        refine TC.region ?_
        refine TL.run1 (pure_move rfl) rfl ?_
        refine TL.run1 (pure_eql rfl rfl) rfl ?_
        refine TL.nil' ?_
        first | refine TC.condD rfl (fun hc31 => ?_) (fun hc31 => ?_) | refine TC.condN rfl (fun hc31 => ?_) (fun hc31 => ?_) | refine TC.cond rfl (fun hc31 => ?_) (fun hc31 => ?_)
        · try dsimp only at hc31
          refine TC.region ?_
          refine TL.run1 (pure_move rfl) rfl ?_
          first | refine TL.run1 (pure_nilCheck rfl) rfl ?_ | refine TL.run1 (pure_nilCheck_own rfl) rfl ?_
          first | refine TL.run1 (pure_fieldAddr Ty.f92_3 rfl (.succ (.succ (.succ (.zero _)))) (List.cons_ne_nil _ _)) rfl ?_ | refine TL.run1 (pure_fieldAddr_own Ty.f92_3 rfl) rfl ?_
          first | refine TL.run1 (pure_load1 Ty.one3 rfl) rfl ?_ | refine TL.run1 (pure_load1_own Ty.one3 rfl (by repeat (first | exact List.Mem.head _ | apply List.Mem.tail)) (by repeat (first | exact DropR.zero _ | apply DropR.succ))) rfl ?_
          refine TL.run1 (pure_add rfl rfl (mkI64 (by omega) (by omega))) rfl ?_
          first | refine TL.run1 (pure_nilCheck rfl) rfl ?_ | refine TL.run1 (pure_nilCheck_own rfl) rfl ?_
          first | refine TL.run1 (pure_fieldAddr Ty.f92_3 rfl (.succ (.succ (.succ (.zero _)))) (List.cons_ne_nil _ _)) rfl ?_ | refine TL.run1 (pure_fieldAddr_own Ty.f92_3 rfl) rfl ?_
          refine TL.store rfl rfl (.one (by first | rfl | assumption)) Tryd.sizeOf3 rfl (by repeat (first | exact UpdR.here _ | apply UpdR.there)) (by repeat (first | exact PutR.nil _ | apply PutR.here | apply PutR.skip)) ?_
          refine TL.nil' ?_
          refine TC.region ?_
          refine TL.run1 (pure_move rfl) rfl ?_
          refine TL.run1 (pure_move rfl) rfl ?_
          first | refine TL.run1 (pure_nilCheck rfl) rfl ?_ | refine TL.run1 (pure_nilCheck_own rfl) rfl ?_
          first | refine TL.run1 (pure_fieldAddr Ty.f92_0 rfl (.zero _) (List.cons_ne_nil _ _)) rfl ?_ | refine TL.run1 (pure_fieldAddr_own Ty.f92_0 rfl) rfl ?_
          refine TL.store rfl rfl (.one (by first | rfl | assumption)) Tryd.sizeOf3 rfl (by repeat (first | exact UpdR.here _ | apply UpdR.there)) (by repeat (first | exact PutR.nil _ | apply PutR.here | apply PutR.skip)) ?_
          refine TL.nil ?_
          exact ret_unitBox (.inr rfl) (by simp only [encM, stepM, List.cons.injEq, D.v.injEq, Value.bool.injEq, Value.int.injEq]; simp_all)
        · try dsimp only at hc31
          refine TC.region ?_
          refine TL.run1 (pure_move rfl) rfl ?_
          first | refine TL.run1 (pure_nilCheck rfl) rfl ?_ | refine TL.run1 (pure_nilCheck_own rfl) rfl ?_
          first | refine TL.run1 (pure_fieldAddr Ty.f92_3 rfl (.succ (.succ (.succ (.zero _)))) (List.cons_ne_nil _ _)) rfl ?_ | refine TL.run1 (pure_fieldAddr_own Ty.f92_3 rfl) rfl ?_
          refine TL.store rfl rfl (.one (by first | rfl | assumption)) Tryd.sizeOf3 rfl (by repeat (first | exact UpdR.here _ | apply UpdR.there)) (by repeat (first | exact PutR.nil _ | apply PutR.here | apply PutR.skip)) ?_
          refine TL.nil' ?_
          refine TC.region ?_
          refine TL.run1 (pure_move rfl) rfl ?_
          refine TL.run1 (pure_move rfl) rfl ?_
          first | refine TL.run1 (pure_nilCheck rfl) rfl ?_ | refine TL.run1 (pure_nilCheck_own rfl) rfl ?_
          first | refine TL.run1 (pure_fieldAddr Ty.f92_0 rfl (.zero _) (List.cons_ne_nil _ _)) rfl ?_ | refine TL.run1 (pure_fieldAddr_own Ty.f92_0 rfl) rfl ?_
          refine TL.store rfl rfl (.one (by first | rfl | assumption)) Tryd.sizeOf3 rfl (by repeat (first | exact UpdR.here _ | apply UpdR.there)) (by repeat (first | exact PutR.nil _ | apply PutR.here | apply PutR.skip)) ?_
          refine TL.nil ?_
          exact ret_unitBox (.inr rfl) (by simp only [encM, stepM, List.cons.injEq, D.v.injEq, Value.bool.injEq, Value.int.injEq]; simp_all)
  · try dsimp only at hg7
    refine TL.passG rfl rfl rfl rfl ?_
    refine TL.passG rfl rfl rfl rfl ?_
    refine TL.passG rfl rfl rfl rfl ?_
    refine TL.passG rfl rfl rfl rfl ?_
    refine TL.run1 (pure_pick_false rfl rfl) rfl ?_
    first | refine TL.run1 (pure_nilCheck rfl) rfl ?_ | refine TL.run1 (pure_nilCheck_own rfl) rfl ?_
    first | refine TL.run1 (pure_fieldAddr Ty.f92_2 rfl (.succ (.succ (.zero _))) (List.cons_ne_nil _ _)) rfl ?_ | refine TL.run1 (pure_fieldAddr_own Ty.f92_2 rfl) rfl ?_
    refine TL.store rfl rfl (.one (by first | rfl | assumption)) Tryd.sizeOf4 rfl (by repeat (first | exact UpdR.here _ | apply UpdR.there)) (by repeat (first | exact PutR.nil _ | apply PutR.here | apply PutR.skip)) ?_
    refine TL.nil' ?_
    refine TC.seq ?_
    refine TC.region ?_
    refine TL.run1 (pure_move rfl) rfl ?_
    refine TL.run1 (pure_move rfl) rfl ?_
    refine TL.run1 (pure_eql rfl rfl) rfl ?_
    refine TL.run1 (pure_move rfl) rfl ?_
    first | refine TL.splitP 18 rfl (fun hg18 => ?_) (fun hg18 => ?_) | refine TL.split 18 rfl (fun hg18 => ?_) (fun hg18 => ?_)
    · try dsimp only at hg18
      refine TL.passG rfl rfl rfl rfl ?_
      refine TL.passG rfl rfl rfl rfl ?_
      refine TL.passG rfl rfl rfl rfl ?_
      refine TL.passG rfl rfl rfl rfl ?_
      refine TL.passG rfl rfl rfl rfl ?_
      refine TL.passG rfl rfl rfl rfl ?_
      refine TL.passG rfl rfl rfl rfl ?_
      refine TL.passG rfl rfl rfl rfl ?_
      refine TL.run1 (pure_pick_true rfl rfl) rfl ?_
      first | refine TL.run1 (pure_nilCheck rfl) rfl ?_ | refine TL.run1 (pure_nilCheck_own rfl) rfl ?_
      first | refine TL.run1 (pure_fieldAddr Ty.f92_1 rfl (.succ (.zero _)) (List.cons_ne_nil _ _)) rfl ?_ | refine TL.run1 (pure_fieldAddr_own Ty.f92_1 rfl) rfl ?_
      refine TL.store rfl rfl (.one (by first | rfl | assumption)) Tryd.sizeOf4 rfl (by repeat (first | exact UpdR.here _ | apply UpdR.there)) (by repeat (first | exact PutR.nil _ | apply PutR.here | apply PutR.skip)) ?_
      refine TL.nil' ?_
      refine TC.seq ?_
      refine TC.seq ?_
      refine TC.region ?_
      refine TL.run1 (pure_move rfl) rfl ?_
      refine TL.run1 (pure_eql rfl rfl) rfl ?_
      refine TL.nil' ?_
      first | refine TC.condD rfl (fun hc31 => ?_) (fun hc31 => ?_) | refine TC.condN rfl (fun hc31 => ?_) (fun hc31 => ?_) | refine TC.cond rfl (fun hc31 => ?_) (fun hc31 => ?_)
      · try dsimp only at hc31
        refine TC.region ?_
        refine TL.run1 (pure_move rfl) rfl ?_
        first | refine TL.run1 (pure_nilCheck rfl) rfl ?_ | refine TL.run1 (pure_nilCheck_own rfl) rfl ?_
        first | refine TL.run1 (pure_fieldAddr Ty.f92_3 rfl (.succ (.succ (.succ (.zero _)))) (List.cons_ne_nil _ _)) rfl ?_ | refine TL.run1 (pure_fieldAddr_own Ty.f92_3 rfl) rfl ?_
        first | refine TL.run1 (pure_load1 Ty.one3 rfl) rfl ?_ | refine TL.run1 (pure_load1_own Ty.one3 rfl (by repeat (first | exact List.Mem.head _ | apply List.Mem.tail)) (by repeat (first | exact DropR.zero _ | apply DropR.succ))) rfl ?_
        refine TL.run1 (pure_add rfl rfl (mkI64 (by omega) (by omega))) rfl ?_
        first | refine TL.run1 (pure_nilCheck rfl) rfl ?_ | refine TL.run1 (pure_nilCheck_own rfl) rfl ?_
        first | refine TL.run1 (pure_fieldAddr Ty.f92_3 rfl (.succ (.succ (.succ (.zero _)))) (List.cons_ne_nil _ _)) rfl ?_ | refine TL.run1 (pure_fieldAddr_own Ty.f92_3 rfl) rfl ?_
        refine TL.store rfl rfl (.one (by first | rfl | assumption)) Tryd.sizeOf3 rfl (by repeat (first | exact UpdR.here _ | apply UpdR.there)) (by repeat (first | exact PutR.nil _ | apply PutR.here | apply PutR.skip)) ?_
        refine TL.nil' ?_
        refine TC.region ?_
        refine TL.run1 (pure_move rfl) rfl ?_
        refine TL.run1 (pure_move rfl) rfl ?_
        first | refine TL.run1 (pure_nilCheck rfl) rfl ?_ | refine TL.run1 (pure_nilCheck_own rfl) rfl ?_
        first | refine TL.run1 (pure_fieldAddr Ty.f92_0 rfl (.zero _) (List.cons_ne_nil _ _)) rfl ?_ | refine TL.run1 (pure_fieldAddr_own Ty.f92_0 rfl) rfl ?_
        refine TL.store rfl rfl (.one (by first | rfl | assumption)) Tryd.sizeOf3 rfl (by repeat (first | exact UpdR.here _ | apply UpdR.there)) (by repeat (first | exact PutR.nil _ | apply PutR.here | apply PutR.skip)) ?_
        refine TL.nil ?_
        exact ret_unitBox (.inr rfl) (by simp only [encM, stepM, List.cons.injEq, D.v.injEq, Value.bool.injEq, Value.int.injEq]; simp_all)
      · try dsimp only at hc31
        refine TC.region ?_
        refine TL.run1 (pure_move rfl) rfl ?_
        first | refine TL.run1 (pure_nilCheck rfl) rfl ?_ | refine TL.run1 (pure_nilCheck_own rfl) rfl ?_
        first | refine TL.run1 (pure_fieldAddr Ty.f92_3 rfl (.succ (.succ (.succ (.zero _)))) (List.cons_ne_nil _ _)) rfl ?_ | refine TL.run1 (pure_fieldAddr_own Ty.f92_3 rfl) rfl ?_
        refine TL.store rfl rfl (.one (by first | rfl | assumption)) Tryd.sizeOf3 rfl (by repeat (first | exact UpdR.here _ | apply UpdR.there)) (by repeat (first | exact PutR.nil _ | apply PutR.here | apply PutR.skip)) ?_
        refine TL.nil' ?_
        refine TC.region ?_
        refine TL.run1 (pure_move rfl) rfl ?_
        refine TL.run1 (pure_move rfl) rfl ?_
        first | refine TL.run1 (pure_nilCheck rfl) rfl ?_ | refine TL.run1 (pure_nilCheck_own rfl) rfl ?_
        first | refine TL.run1 (pure_fieldAddr Ty.f92_0 rfl (.zero _) (List.cons_ne_nil _ _)) rfl ?_ | refine TL.run1 (pure_fieldAddr_own Ty.f92_0 rfl) rfl ?_
        refine TL.store rfl rfl (.one (by first | rfl | assumption)) Tryd.sizeOf3 rfl (by repeat (first | exact UpdR.here _ | apply UpdR.there)) (by repeat (first | exact PutR.nil _ | apply PutR.here | apply PutR.skip)) ?_
        refine TL.nil ?_
        exact ret_unitBox (.inr rfl) (by simp only [encM, stepM, List.cons.injEq, D.v.injEq, Value.bool.injEq, Value.int.injEq]; simp_all)
    · try dsimp only at hg18
      refine TL.runG rfl rfl (pure_move rfl) rfl ?_
      refine TL.runG rfl rfl (pure_eql rfl rfl) rfl ?_
      refine TL.runG rfl rfl (pure_move rfl) rfl ?_
      first | refine TL.splitP 21 rfl (fun hg21 => ?_) (fun hg21 => ?_) | refine TL.split 21 rfl (fun hg21 => ?_) (fun hg21 => ?_)
      · try dsimp only at hg21
        refine TL.runG rfl rfl (pure_move rfl) rfl ?_
        first | refine TL.runG rfl rfl (pure_nilCheck rfl) rfl ?_ | refine TL.runG rfl rfl (pure_nilCheck_own rfl) rfl ?_
        first | refine TL.runG rfl rfl (pure_fieldAddr Ty.f92_1 rfl (.succ (.zero _)) (List.cons_ne_nil _ _)) rfl ?_ | refine TL.runG rfl rfl (pure_fieldAddr_own Ty.f92_1 rfl) rfl ?_
        first | refine TL.runG rfl rfl (pure_load1 Ty.one4 rfl) rfl ?_ | refine TL.runG rfl rfl (pure_load1_own Ty.one4 rfl (by repeat (first | exact List.Mem.head _ | apply List.Mem.tail)) (by repeat (first | exact DropR.zero _ | apply DropR.succ))) rfl ?_
        refine TL.runG rfl rfl (pure_pick_true rfl rfl) rfl ?_
        refine TL.run1 (pure_pick_false rfl rfl) rfl ?_
        first | refine TL.run1 (pure_nilCheck rfl) rfl ?_ | refine TL.run1 (pure_nilCheck_own rfl) rfl ?_
        first | refine TL.run1 (pure_fieldAddr Ty.f92_1 rfl (.succ (.zero _)) (List.cons_ne_nil _ _)) rfl ?_ | refine TL.run1 (pure_fieldAddr_own Ty.f92_1 rfl) rfl ?_
        refine TL.store rfl rfl (.one (by first | rfl | assumption)) Tryd.sizeOf4 rfl (by repeat (first | exact UpdR.here _ | apply UpdR.there)) (by repeat (first | exact PutR.nil _ | apply PutR.here | apply PutR.skip)) ?_
        refine TL.nil' ?_
        refine TC.seq ?_
        refine TC.seq ?_
        refine TC.region ?_
        refine TL.run1 (pure_move rfl) rfl ?_
        refine TL.run1 (pure_eql rfl rfl) rfl ?_
        refine TL.nil' ?_
        first | refine TC.condD rfl (fun hc31 => ?_) (fun hc31 => ?_) | refine TC.condN rfl (fun hc31 => ?_) (fun hc31 => ?_) | refine TC.cond rfl (fun hc31 => ?_) (fun hc31 => ?_)
        · try dsimp only at hc31
          refine TC.region ?_
          refine TL.run1 (pure_move rfl) rfl ?_
          first | refine TL.run1 (pure_nilCheck rfl) rfl ?_ | refine TL.run1 (pure_nilCheck_own rfl) rfl ?_
          first | refine TL.run1 (pure_fieldAddr Ty.f92_3 rfl (.succ (.succ (.succ (.zero _)))) (List.cons_ne_nil _ _)) rfl ?_ | refine TL.run1 (pure_fieldAddr_own Ty.f92_3 rfl) rfl ?_
          first | refine TL.run1 (pure_load1 Ty.one3 rfl) rfl ?_ | refine TL.run1 (pure_load1_own Ty.one3 rfl (by repeat (first | exact List.Mem.head _ | apply List.Mem.tail)) (by repeat (first | exact DropR.zero _ | apply DropR.succ))) rfl ?_
          refine TL.run1 (pure_add rfl rfl (mkI64 (by omega) (by omega))) rfl ?_
          first | refine TL.run1 (pure_nilCheck rfl) rfl ?_ | refine TL.run1 (pure_nilCheck_own rfl) rfl ?_
          first | refine TL.run1 (pure_fieldAddr Ty.f92_3 rfl (.succ (.succ (.succ (.zero _)))) (List.cons_ne_nil _ _)) rfl ?_ | refine TL.run1 (pure_fieldAddr_own Ty.f92_3 rfl) rfl ?_
          refine TL.store rfl rfl (.one (by first | rfl | assumption)) Tryd.sizeOf3 rfl (by repeat (first | exact UpdR.here _ | apply UpdR.there)) (by repeat (first | exact PutR.nil _ | apply PutR.here | apply PutR.skip)) ?_
          refine TL.nil' ?_
          refine TC.region ?_
          refine TL.run1 (pure_move rfl) rfl ?_
          refine TL.run1 (pure_move rfl) rfl ?_
          first | refine TL.run1 (pure_nilCheck rfl) rfl ?_ | refine TL.run1 (pure_nilCheck_own rfl) rfl ?_
          first | refine TL.run1 (pure_fieldAddr Ty.f92_0 rfl (.zero _) (List.cons_ne_nil _ _)) rfl ?_ | refine TL.run1 (pure_fieldAddr_own Ty.f92_0 rfl) rfl ?_
          refine TL.store rfl rfl (.one (by first | rfl | assumption)) Tryd.sizeOf3 rfl (by repeat (first | exact UpdR.here _ | apply UpdR.there)) (by repeat (first | exact PutR.nil _ | apply PutR.here | apply PutR.skip)) ?_
          refine TL.nil ?_
          exact ret_unitBox (.inr rfl) (by simp only [encM, stepM, List.cons.injEq, D.v.injEq, Value.bool.injEq, Value.int.injEq]; simp_all)
        · try dsimp only at hc31
          refine TC.region ?_
          refine TL.run1 (pure_move rfl) rfl ?_
          first | refine TL.run1 (pure_nilCheck rfl) rfl ?_ | refine TL.run1 (pure_nilCheck_own rfl) rfl ?_
          first | refine TL.run1 (pure_fieldAddr Ty.f92_3 rfl (.succ (.succ (.succ (.zero _)))) (List.cons_ne_nil _ _)) rfl ?_ | refine TL.run1 (pure_fieldAddr_own Ty.f92_3 rfl) rfl ?_
          refine TL.store rfl rfl (.one (by first | rfl | assumption)) Tryd.sizeOf3 rfl (by repeat (first | exact UpdR.here _ | apply UpdR.there)) (by repeat (first | exact PutR.nil _ | apply PutR.here | apply PutR.skip)) ?_
          refine TL.nil' ?_
          refine TC.region ?_
          refine TL.run1 (pure_move rfl) rfl ?_
          refine TL.run1 (pure_move rfl) rfl ?_
          first | refine TL.run1 (pure_nilCheck rfl) rfl ?_ | refine TL.run1 (pure_nilCheck_own rfl) rfl ?_
          first | refine TL.run1 (pure_fieldAddr Ty.f92_0 rfl (.zero _) (List.cons_ne_nil _ _)) rfl ?_ | refine TL.run1 (pure_fieldAddr_own Ty.f92_0 rfl) rfl ?_
          refine TL.store rfl rfl (.one (by first | rfl | assumption)) Tryd.sizeOf3 rfl (by repeat (first | exact UpdR.here _ | apply UpdR.there)) (by repeat (first | exact PutR.nil _ | apply PutR.here | apply PutR.skip)) ?_
          refine TL.nil ?_
          exact ret_unitBox (.inr rfl) (by simp only [encM, stepM, List.cons.injEq, D.v.injEq, Value.bool.injEq, Value.int.injEq]; simp_all)
      · try dsimp only at hg21
        refine TL.passG rfl rfl rfl rfl ?_
        refine TL.passG rfl rfl rfl rfl ?_
        refine TL.passG rfl rfl rfl rfl ?_
        refine TL.passG rfl rfl rfl rfl ?_
        refine TL.runG rfl rfl (pure_pick_false rfl rfl) rfl ?_
        refine TL.run1 (pure_pick_false rfl rfl) rfl ?_
        first | refine TL.run1 (pure_nilCheck rfl) rfl ?_ | refine TL.run1 (pure_nilCheck_own rfl) rfl ?_
        first | refine TL.run1 (pure_fieldAddr Ty.f92_1 rfl (.succ (.zero _)) (List.cons_ne_nil _ _)) rfl ?_ | refine TL.run1 (pure_fieldAddr_own Ty.f92_1 rfl) rfl ?_
        refine TL.store rfl rfl (.one (by first | rfl | assumption)) Tryd.sizeOf4 rfl (by repeat (first | exact UpdR.here _ | apply UpdR.there)) (by repeat (first | exact PutR.nil _ | apply PutR.here | apply PutR.skip)) ?_
        refine TL.nil' ?_
        refine TC.seq ?_
        refine TC.seq ?_
        refine TC.region ?_
        refine TL.run1 (pure_move rfl) rfl ?_
        refine TL.run1 (pure_eql rfl rfl) rfl ?_
        refine TL.nil' ?_
        first | refine TC.condD rfl (fun hc31 => ?_) (fun hc31 => ?_) | refine TC.condN rfl (fun hc31 => ?_) (fun hc31 => ?_) | refine TC.cond rfl (fun hc31 => ?_) (fun hc31 => ?_)
        · try dsimp only at hc31
          refine TC.region ?_
          refine TL.run1 (pure_move rfl) rfl ?_
          first | refine TL.run1 (pure_nilCheck rfl) rfl ?_ | refine TL.run1 (pure_nilCheck_own rfl) rfl ?_
          first | refine TL.run1 (pure_fieldAddr Ty.f92_3 rfl (.succ (.succ (.succ (.zero _)))) (List.cons_ne_nil _ _)) rfl ?_ | refine TL.run1 (pure_fieldAddr_own Ty.f92_3 rfl) rfl ?_
          first | refine TL.run1 (pure_load1 Ty.one3 rfl) rfl ?_ | refine TL.run1 (pure_load1_own Ty.one3 rfl (by repeat (first | exact List.Mem.head _ | apply List.Mem.tail)) (by repeat (first | exact DropR.zero _ | apply DropR.succ))) rfl ?_
          refine TL.run1 (pure_add rfl rfl (mkI64 (by omega) (by omega))) rfl ?_
          first | refine TL.run1 (pure_nilCheck rfl) rfl ?_ | refine TL.run1 (pure_nilCheck_own rfl) rfl ?_
          first | refine TL.run1 (pure_fieldAddr Ty.f92_3 rfl (.succ (.succ (.succ (.zero _)))) (List.cons_ne_nil _ _)) rfl ?_ | refine TL.run1 (pure_fieldAddr_own Ty.f92_3 rfl) rfl ?_
          refine TL.store rfl rfl (.one (by first | rfl | assumption)) Tryd.sizeOf3 rfl (by repeat (first | exact UpdR.here _ | apply UpdR.there)) (by repeat (first | exact PutR.nil _ | apply PutR.here | apply PutR.skip)) ?_
          refine TL.nil' ?_
          refine TC.region ?_
          refine TL.run1 (pure_move rfl) rfl ?_
          refine TL.run1 (pure_move rfl) rfl ?_
          first | refine TL.run1 (pure_nilCheck rfl) rfl ?_ | refine TL.run1 (pure_nilCheck_own rfl) rfl ?_
          first | refine TL.run1 (pure_fieldAddr Ty.f92_0 rfl (.zero _) (List.cons_ne_nil _ _)) rfl ?_ | refine TL.run1 (pure_fieldAddr_own Ty.f92_0 rfl) rfl ?_
          refine TL.store rfl rfl (.one (by first | rfl | assumption)) Tryd.sizeOf3 rfl (by repeat (first | exact UpdR.here _ | apply UpdR.there)) (by repeat (first | exact PutR.nil _ | apply PutR.here | apply PutR.skip)) ?_
          refine TL.nil ?_
          exact ret_unitBox (.inr rfl) (by simp only [encM, stepM, List.cons.injEq, D.v.injEq, Value.bool.injEq, Value.int.injEq]; simp_all)
        · try dsimp only at hc31
          refine TC.region ?_
          refine TL.run1 (pure_move rfl) rfl ?_
          first | refine TL.run1 (pure_nilCheck rfl) rfl ?_ | refine TL.run1 (pure_nilCheck_own rfl) rfl ?_
          first | refine TL.run1 (pure_fieldAddr Ty.f92_3 rfl (.succ (.succ (.succ (.zero _)))) (List.cons_ne_nil _ _)) rfl ?_ | refine TL.run1 (pure_fieldAddr_own Ty.f92_3 rfl) rfl ?_
          refine TL.store rfl rfl (.one (by first | rfl | assumption)) Tryd.sizeOf3 rfl (by repeat (first | exact UpdR.here _ | apply UpdR.there)) (by repeat (first | exact PutR.nil _ | apply PutR.here | apply PutR.skip)) ?_
          refine TL.nil' ?_
          refine TC.region ?_
          refine TL.run1 (pure_move rfl) rfl ?_
          refine TL.run1 (pure_move rfl) rfl ?_
          first | refine TL.run1 (pure_nilCheck rfl) rfl ?_ | refine TL.run1 (pure_nilCheck_own rfl) rfl ?_
          first | refine TL.run1 (pure_fieldAddr Ty.f92_0 rfl (.zero _) (List.cons_ne_nil _ _)) rfl ?_ | refine TL.run1 (pure_fieldAddr_own Ty.f92_0 rfl) rfl ?_
          refine TL.store rfl rfl (.one (by first | rfl | assumption)) Tryd.sizeOf3 rfl (by repeat (first | exact UpdR.here _ | apply UpdR.there)) (by repeat (first | exact PutR.nil _ | apply PutR.here | apply PutR.skip)) ?_
          refine TL.nil ?_
          exact ret_unitBox (.inr rfl) (by simp only [encM, stepM, List.cons.injEq, D.v.injEq, Value.bool.injEq, Value.int.injEq]; simp_all)
end Go.Ob
