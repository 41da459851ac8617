import Derived.Test.YtcfnfioefbkamaaDoorK3
set_option linter.unusedVariables false
set_option linter.unusedSimpArgs false
namespace Go.Ob
open Go.Proofs
set_option maxHeartbeats 4000000 in
set_option maxRecDepth 100000 in
theorem syllable_spec (a b : Int) : Fun Tryd.prog 61 [.v (.int .i64 a), .v (.int .i64 b)] (.v (.bool (decide (Hang a b)))) := by
  refine Fun.enter (n := 51) (rs := [.tmp 4]) Tryd.func61 rfl Tryd.ntmps61 Tryd.results61 rfl (fun w F => ?_); refine TC.seq ?_; refine TC.region ?_; refine TL.run1 (pure_assign rfl) rfl ?_; refine TL.nil' ?_; refine TC.regionCut [5, 6, 7, 8, 9, 10, 11, 12, 13, 14, 15, 16, 17, 18, 19, 20, 21, 22, 23, 24, 25, 26, 27, 28, 29, 30, 31, 32, 33, 34, 35, 36, 37, 38, 39, 40, 41, 42, 43, 44, 45, 46, 47, 48, 49, 50, 4] 4 (Hang a b) ?_ ?_
  · skip
    refine TL.run1 (pure_move rfl) rfl ?_; refine TL.run1 (pure_eql rfl rfl) rfl ?_; refine TL.run1 (pure_move rfl) rfl ?_; refine TL.splitP 7 rfl (fun hg7 => ?_) (fun hg7 => ?_)
    · try dsimp only at hg7
      refine TL.runG rfl rfl (pure_move rfl) rfl ?_; refine TL.runG rfl rfl (pure_eql rfl rfl) rfl ?_; refine TL.runG rfl rfl (pure_move rfl) rfl ?_; refine TL.splitP 10 rfl (fun hg10 => ?_) (fun hg10 => ?_)
      · try dsimp only at hg10
        (iterate 2 refine TL.passG rfl rfl rfl rfl ?_); refine TL.runG rfl rfl (pure_pick_true rfl rfl) rfl ?_; refine TL.runG rfl rfl (pure_move rfl) rfl ?_; (iterate 2 refine TL.passG rfl rfl rfl rfl ?_); refine TL.runG rfl rfl (pure_pick_true rfl rfl) rfl ?_; refine TL.runG rfl rfl (pure_move rfl) rfl ?_; (iterate 2 refine TL.passG rfl rfl rfl rfl ?_); refine TL.runG rfl rfl (pure_pick_true rfl rfl) rfl ?_; refine TL.run1 (pure_pick_true rfl rfl) rfl ?_; refine TL.run1 (pure_move rfl) rfl ?_; refine TL.split 23 rfl (fun hg23 => ?_) (fun hg23 => ?_)
        · try dsimp only at hg23
          (iterate 14 refine TL.passG rfl rfl rfl rfl ?_); refine TL.run1 (pure_pick_true rfl rfl) rfl ?_; refine TL.run1 (pure_move rfl) rfl ?_; (iterate 10 refine TL.passG rfl rfl rfl rfl ?_); refine TL.run1 (pure_pick_true rfl rfl) rfl ?_; refine TL.run1 (pure_assign rfl) rfl ?_; refine TL.cutEnd (by repeat (first | exact Same.refl _ _ | refine Same.put rfl ?_)) rfl ?_
          first | (simp only [Ctl, Hang, decide_eq_true_eq, Bool.false_eq_true, false_iff, true_iff, iff_true, iff_false, Bool.not_eq_true]; omega) | grind [Ctl, Hang]
        · try dsimp only at hg23
          refine TL.runG rfl rfl (pure_move rfl) rfl ?_; refine TL.runG rfl rfl (pure_eql rfl rfl) rfl ?_; refine TL.runG rfl rfl (pure_move rfl) rfl ?_; refine TL.splitP 26 rfl (fun hg26 => ?_) (fun hg26 => ?_)
          · try dsimp only at hg26
            (iterate 2 refine TL.passG rfl rfl rfl rfl ?_); refine TL.runG rfl rfl (pure_pick_true rfl rfl) rfl ?_; (iterate 2 refine TL.runG rfl rfl (pure_move rfl) rfl ?_); refine TL.runG rfl rfl (pure_eql rfl rfl) rfl ?_; refine TL.runG rfl rfl (pure_move rfl) rfl ?_; refine TL.splitP 33 rfl (fun hg33 => ?_) (fun hg33 => ?_)
            · try dsimp only at hg33
              (iterate 2 refine TL.passG rfl rfl rfl rfl ?_); (iterate 2 refine TL.runG rfl rfl (pure_pick_true rfl rfl) rfl ?_); refine TL.run1 (pure_pick_false rfl rfl) rfl ?_; refine TL.run1 (pure_move rfl) rfl ?_; refine TL.split 39 rfl (fun hg39 => ?_) (fun hg39 => ?_)
              · try dsimp only at hg39
                (iterate 10 refine TL.passG rfl rfl rfl rfl ?_); refine TL.run1 (pure_pick_true rfl rfl) rfl ?_; refine TL.run1 (pure_assign rfl) rfl ?_; refine TL.cutEnd (by repeat (first | exact Same.refl _ _ | refine Same.put rfl ?_)) rfl ?_
                first | (simp only [Ctl, Hang, decide_eq_true_eq, Bool.false_eq_true, false_iff, true_iff, iff_true, iff_false, Bool.not_eq_true]; omega) | grind [Ctl, Hang]
              · try dsimp only at hg39
                refine TL.runG rfl rfl (pure_move rfl) rfl ?_; refine TL.runG rfl rfl (pure_eql rfl rfl) rfl ?_; refine TL.runG rfl rfl (pure_move rfl) rfl ?_; refine TL.splitP 42 rfl (fun hg42 => ?_) (fun hg42 => ?_)
                · try dsimp only at hg42
                  (iterate 2 refine TL.passG rfl rfl rfl rfl ?_); refine TL.runG rfl rfl (pure_pick_true rfl rfl) rfl ?_; (iterate 2 refine TL.runG rfl rfl (pure_move rfl) rfl ?_); refine TL.runG rfl rfl (pure_eql rfl rfl) rfl ?_; refine TL.runG rfl rfl (pure_pick_true rfl rfl) rfl ?_; refine TL.run1 (pure_pick_false rfl rfl) rfl ?_; refine TL.run1 (pure_assign rfl) rfl ?_; refine TL.cutEnd (by repeat (first | exact Same.refl _ _ | refine Same.put rfl ?_)) rfl ?_
                  first | (simp only [Ctl, Hang, decide_eq_true_eq, Bool.false_eq_true, false_iff, true_iff, iff_true, iff_false, Bool.not_eq_true]; omega) | grind [Ctl, Hang]
                · try dsimp only at hg42
                  refine TL.runG rfl rfl (pure_move rfl) rfl ?_; refine TL.runG rfl rfl (pure_eql rfl rfl) rfl ?_; refine TL.runG rfl rfl (pure_pick_false rfl rfl) rfl ?_; refine TL.runG rfl rfl (pure_move rfl) rfl ?_; refine TL.splitP 46 rfl (fun hg46 => ?_) (fun hg46 => ?_)
                  · try dsimp only at hg46
                    refine TL.runG rfl rfl (pure_move rfl) rfl ?_; refine TL.runG rfl rfl (pure_eql rfl rfl) rfl ?_; refine TL.runG rfl rfl (pure_pick_true rfl rfl) rfl ?_; refine TL.run1 (pure_pick_false rfl rfl) rfl ?_; refine TL.run1 (pure_assign rfl) rfl ?_; refine TL.cutEnd (by repeat (first | exact Same.refl _ _ | refine Same.put rfl ?_)) rfl ?_
                    first | (simp only [Ctl, Hang, decide_eq_true_eq, Bool.false_eq_true, false_iff, true_iff, iff_true, iff_false, Bool.not_eq_true]; omega) | grind [Ctl, Hang]
                  · try dsimp only at hg46
                    (iterate 2 refine TL.passG rfl rfl rfl rfl ?_); refine TL.runG rfl rfl (pure_pick_false rfl rfl) rfl ?_; refine TL.run1 (pure_pick_false rfl rfl) rfl ?_; refine TL.run1 (pure_assign rfl) rfl ?_; refine TL.cutEnd (by repeat (first | exact Same.refl _ _ | refine Same.put rfl ?_)) rfl ?_
                    first | (simp only [Ctl, Hang, decide_eq_true_eq, Bool.false_eq_true, false_iff, true_iff, iff_true, iff_false, Bool.not_eq_true]; omega) | grind [Ctl, Hang]
            · try dsimp only at hg33
              refine TL.runG rfl rfl (pure_move rfl) rfl ?_; refine TL.runG rfl rfl (pure_eql rfl rfl) rfl ?_; refine TL.runG rfl rfl (pure_pick_false rfl rfl) rfl ?_; refine TL.runG rfl rfl (pure_pick_true rfl rfl) rfl ?_; refine TL.run1 (pure_pick_false rfl rfl) rfl ?_; refine TL.run1 (pure_move rfl) rfl ?_; refine TL.splitP 39 rfl (fun hg39 => ?_) (fun hg39 => ?_)
              · try dsimp only at hg39
                (iterate 10 refine TL.passG rfl rfl rfl rfl ?_); refine TL.run1 (pure_pick_true rfl rfl) rfl ?_; refine TL.run1 (pure_assign rfl) rfl ?_; refine TL.cutEnd (by repeat (first | exact Same.refl _ _ | refine Same.put rfl ?_)) rfl ?_
                first | (simp only [Ctl, Hang, decide_eq_true_eq, Bool.false_eq_true, false_iff, true_iff, iff_true, iff_false, Bool.not_eq_true]; omega) | grind [Ctl, Hang]
              · try dsimp only at hg39
                refine TL.runG rfl rfl (pure_move rfl) rfl ?_; refine TL.runG rfl rfl (pure_eql rfl rfl) rfl ?_; refine TL.runG rfl rfl (pure_move rfl) rfl ?_; refine TL.splitP 42 rfl (fun hg42 => ?_) (fun hg42 => ?_)
                · try dsimp only at hg42
                  (iterate 2 refine TL.passG rfl rfl rfl rfl ?_); refine TL.runG rfl rfl (pure_pick_true rfl rfl) rfl ?_; (iterate 2 refine TL.runG rfl rfl (pure_move rfl) rfl ?_); refine TL.runG rfl rfl (pure_eql rfl rfl) rfl ?_; refine TL.runG rfl rfl (pure_pick_true rfl rfl) rfl ?_; refine TL.run1 (pure_pick_false rfl rfl) rfl ?_; refine TL.run1 (pure_assign rfl) rfl ?_; refine TL.cutEnd (by repeat (first | exact Same.refl _ _ | refine Same.put rfl ?_)) rfl ?_
                  first | (simp only [Ctl, Hang, decide_eq_true_eq, Bool.false_eq_true, false_iff, true_iff, iff_true, iff_false, Bool.not_eq_true]; omega) | grind [Ctl, Hang]
                · try dsimp only at hg42
                  refine TL.runG rfl rfl (pure_move rfl) rfl ?_; refine TL.runG rfl rfl (pure_eql rfl rfl) rfl ?_; refine TL.runG rfl rfl (pure_pick_false rfl rfl) rfl ?_; refine TL.runG rfl rfl (pure_move rfl) rfl ?_; refine TL.splitP 46 rfl (fun hg46 => ?_) (fun hg46 => ?_)
                  · try dsimp only at hg46
                    refine TL.runG rfl rfl (pure_move rfl) rfl ?_; refine TL.runG rfl rfl (pure_eql rfl rfl) rfl ?_; refine TL.runG rfl rfl (pure_pick_true rfl rfl) rfl ?_; refine TL.run1 (pure_pick_false rfl rfl) rfl ?_; refine TL.run1 (pure_assign rfl) rfl ?_; refine TL.cutEnd (by repeat (first | exact Same.refl _ _ | refine Same.put rfl ?_)) rfl ?_
                    first | (simp only [Ctl, Hang, decide_eq_true_eq, Bool.false_eq_true, false_iff, true_iff, iff_true, iff_false, Bool.not_eq_true]; omega) | grind [Ctl, Hang]
                  · try dsimp only at hg46
                    (iterate 2 refine TL.passG rfl rfl rfl rfl ?_); refine TL.runG rfl rfl (pure_pick_false rfl rfl) rfl ?_; refine TL.run1 (pure_pick_false rfl rfl) rfl ?_; refine TL.run1 (pure_assign rfl) rfl ?_; refine TL.cutEnd (by repeat (first | exact Same.refl _ _ | refine Same.put rfl ?_)) rfl ?_
                    first | (simp only [Ctl, Hang, decide_eq_true_eq, Bool.false_eq_true, false_iff, true_iff, iff_true, iff_false, Bool.not_eq_true]; omega) | grind [Ctl, Hang]
          · try dsimp only at hg26
            refine TL.runG rfl rfl (pure_move rfl) rfl ?_; refine TL.runG rfl rfl (pure_eql rfl rfl) rfl ?_; refine TL.runG rfl rfl (pure_pick_false rfl rfl) rfl ?_; refine TL.runG rfl rfl (pure_move rfl) rfl ?_; refine TL.splitP 30 rfl (fun hg30 => ?_) (fun hg30 => ?_)
            · try dsimp only at hg30
              refine TL.runG rfl rfl (pure_move rfl) rfl ?_; refine TL.runG rfl rfl (pure_eql rfl rfl) rfl ?_; refine TL.runG rfl rfl (pure_move rfl) rfl ?_; refine TL.splitP 33 rfl (fun hg33 => ?_) (fun hg33 => ?_)
              · try dsimp only at hg33
                (iterate 2 refine TL.passG rfl rfl rfl rfl ?_); (iterate 2 refine TL.runG rfl rfl (pure_pick_true rfl rfl) rfl ?_); refine TL.run1 (pure_pick_false rfl rfl) rfl ?_; refine TL.run1 (pure_move rfl) rfl ?_; refine TL.split 39 rfl (fun hg39 => ?_) (fun hg39 => ?_)
                · try dsimp only at hg39
                  (iterate 10 refine TL.passG rfl rfl rfl rfl ?_); refine TL.run1 (pure_pick_true rfl rfl) rfl ?_; refine TL.run1 (pure_assign rfl) rfl ?_; refine TL.cutEnd (by repeat (first | exact Same.refl _ _ | refine Same.put rfl ?_)) rfl ?_
                  first | (simp only [Ctl, Hang, decide_eq_true_eq, Bool.false_eq_true, false_iff, true_iff, iff_true, iff_false, Bool.not_eq_true]; omega) | grind [Ctl, Hang]
                · try dsimp only at hg39
                  refine TL.runG rfl rfl (pure_move rfl) rfl ?_; refine TL.runG rfl rfl (pure_eql rfl rfl) rfl ?_; refine TL.runG rfl rfl (pure_move rfl) rfl ?_; refine TL.splitP 42 rfl (fun hg42 => ?_) (fun hg42 => ?_)
                  · try dsimp only at hg42
                    (iterate 2 refine TL.passG rfl rfl rfl rfl ?_); refine TL.runG rfl rfl (pure_pick_true rfl rfl) rfl ?_; (iterate 2 refine TL.runG rfl rfl (pure_move rfl) rfl ?_); refine TL.runG rfl rfl (pure_eql rfl rfl) rfl ?_; refine TL.runG rfl rfl (pure_pick_true rfl rfl) rfl ?_; refine TL.run1 (pure_pick_false rfl rfl) rfl ?_; refine TL.run1 (pure_assign rfl) rfl ?_; refine TL.cutEnd (by repeat (first | exact Same.refl _ _ | refine Same.put rfl ?_)) rfl ?_
                    first | (simp only [Ctl, Hang, decide_eq_true_eq, Bool.false_eq_true, false_iff, true_iff, iff_true, iff_false, Bool.not_eq_true]; omega) | grind [Ctl, Hang]
                  · try dsimp only at hg42
                    refine TL.runG rfl rfl (pure_move rfl) rfl ?_; refine TL.runG rfl rfl (pure_eql rfl rfl) rfl ?_; refine TL.runG rfl rfl (pure_pick_false rfl rfl) rfl ?_; refine TL.runG rfl rfl (pure_move rfl) rfl ?_; refine TL.splitP 46 rfl (fun hg46 => ?_) (fun hg46 => ?_)
                    · try dsimp only at hg46
                      refine TL.runG rfl rfl (pure_move rfl) rfl ?_; refine TL.runG rfl rfl (pure_eql rfl rfl) rfl ?_; refine TL.runG rfl rfl (pure_pick_true rfl rfl) rfl ?_; refine TL.run1 (pure_pick_false rfl rfl) rfl ?_; refine TL.run1 (pure_assign rfl) rfl ?_; refine TL.cutEnd (by repeat (first | exact Same.refl _ _ | refine Same.put rfl ?_)) rfl ?_
                      first | (simp only [Ctl, Hang, decide_eq_true_eq, Bool.false_eq_true, false_iff, true_iff, iff_true, iff_false, Bool.not_eq_true]; omega) | grind [Ctl, Hang]
                    · try dsimp only at hg46
                      (iterate 2 refine TL.passG rfl rfl rfl rfl ?_); refine TL.runG rfl rfl (pure_pick_false rfl rfl) rfl ?_; refine TL.run1 (pure_pick_false rfl rfl) rfl ?_; refine TL.run1 (pure_assign rfl) rfl ?_; refine TL.cutEnd (by repeat (first | exact Same.refl _ _ | refine Same.put rfl ?_)) rfl ?_
                      first | (simp only [Ctl, Hang, decide_eq_true_eq, Bool.false_eq_true, false_iff, true_iff, iff_true, iff_false, Bool.not_eq_true]; omega) | grind [Ctl, Hang]
              · try dsimp only at hg33
                refine TL.runG rfl rfl (pure_move rfl) rfl ?_; refine TL.runG rfl rfl (pure_eql rfl rfl) rfl ?_; refine TL.runG rfl rfl (pure_pick_false rfl rfl) rfl ?_; refine TL.runG rfl rfl (pure_pick_true rfl rfl) rfl ?_; refine TL.run1 (pure_pick_false rfl rfl) rfl ?_; refine TL.run1 (pure_move rfl) rfl ?_; refine TL.splitP 39 rfl (fun hg39 => ?_) (fun hg39 => ?_)
                · try dsimp only at hg39
                  (iterate 10 refine TL.passG rfl rfl rfl rfl ?_); refine TL.run1 (pure_pick_true rfl rfl) rfl ?_; refine TL.run1 (pure_assign rfl) rfl ?_; refine TL.cutEnd (by repeat (first | exact Same.refl _ _ | refine Same.put rfl ?_)) rfl ?_
                  first | (simp only [Ctl, Hang, decide_eq_true_eq, Bool.false_eq_true, false_iff, true_iff, iff_true, iff_false, Bool.not_eq_true]; omega) | grind [Ctl, Hang]
                · try dsimp only at hg39
                  refine TL.runG rfl rfl (pure_move rfl) rfl ?_; refine TL.runG rfl rfl (pure_eql rfl rfl) rfl ?_; refine TL.runG rfl rfl (pure_move rfl) rfl ?_; refine TL.splitP 42 rfl (fun hg42 => ?_) (fun hg42 => ?_)
                  · try dsimp only at hg42
                    (iterate 2 refine TL.passG rfl rfl rfl rfl ?_); refine TL.runG rfl rfl (pure_pick_true rfl rfl) rfl ?_; (iterate 2 refine TL.runG rfl rfl (pure_move rfl) rfl ?_); refine TL.runG rfl rfl (pure_eql rfl rfl) rfl ?_; refine TL.runG rfl rfl (pure_pick_true rfl rfl) rfl ?_; refine TL.run1 (pure_pick_false rfl rfl) rfl ?_; refine TL.run1 (pure_assign rfl) rfl ?_; refine TL.cutEnd (by repeat (first | exact Same.refl _ _ | refine Same.put rfl ?_)) rfl ?_
                    first | (simp only [Ctl, Hang, decide_eq_true_eq, Bool.false_eq_true, false_iff, true_iff, iff_true, iff_false, Bool.not_eq_true]; omega) | grind [Ctl, Hang]
                  · try dsimp only at hg42
                    refine TL.runG rfl rfl (pure_move rfl) rfl ?_; refine TL.runG rfl rfl (pure_eql rfl rfl) rfl ?_; refine TL.runG rfl rfl (pure_pick_false rfl rfl) rfl ?_; refine TL.runG rfl rfl (pure_move rfl) rfl ?_; refine TL.splitP 46 rfl (fun hg46 => ?_) (fun hg46 => ?_)
                    · try dsimp only at hg46
                      refine TL.runG rfl rfl (pure_move rfl) rfl ?_; refine TL.runG rfl rfl (pure_eql rfl rfl) rfl ?_; refine TL.runG rfl rfl (pure_pick_true rfl rfl) rfl ?_; refine TL.run1 (pure_pick_false rfl rfl) rfl ?_; refine TL.run1 (pure_assign rfl) rfl ?_; refine TL.cutEnd (by repeat (first | exact Same.refl _ _ | refine Same.put rfl ?_)) rfl ?_
                      first | (simp only [Ctl, Hang, decide_eq_true_eq, Bool.false_eq_true, false_iff, true_iff, iff_true, iff_false, Bool.not_eq_true]; omega) | grind [Ctl, Hang]
                    · try dsimp only at hg46
                      (iterate 2 refine TL.passG rfl rfl rfl rfl ?_); refine TL.runG rfl rfl (pure_pick_false rfl rfl) rfl ?_; refine TL.run1 (pure_pick_false rfl rfl) rfl ?_; refine TL.run1 (pure_assign rfl) rfl ?_; refine TL.cutEnd (by repeat (first | exact Same.refl _ _ | refine Same.put rfl ?_)) rfl ?_
                      first | (simp only [Ctl, Hang, decide_eq_true_eq, Bool.false_eq_true, false_iff, true_iff, iff_true, iff_false, Bool.not_eq_true]; omega) | grind [Ctl, Hang]
            · try dsimp only at hg30
              (iterate 6 refine TL.passG rfl rfl rfl rfl ?_); refine TL.runG rfl rfl (pure_pick_false rfl rfl) rfl ?_; refine TL.run1 (pure_pick_false rfl rfl) rfl ?_; refine TL.run1 (pure_move rfl) rfl ?_; refine TL.split 39 rfl (fun hg39 => ?_) (fun hg39 => ?_)
              · try dsimp only at hg39
                (iterate 10 refine TL.passG rfl rfl rfl rfl ?_); refine TL.run1 (pure_pick_true rfl rfl) rfl ?_; refine TL.run1 (pure_assign rfl) rfl ?_; refine TL.cutEnd (by repeat (first | exact Same.refl _ _ | refine Same.put rfl ?_)) rfl ?_
                first | (simp only [Ctl, Hang, decide_eq_true_eq, Bool.false_eq_true, false_iff, true_iff, iff_true, iff_false, Bool.not_eq_true]; omega) | grind [Ctl, Hang]
              · try dsimp only at hg39
                refine TL.runG rfl rfl (pure_move rfl) rfl ?_; refine TL.runG rfl rfl (pure_eql rfl rfl) rfl ?_; refine TL.runG rfl rfl (pure_move rfl) rfl ?_; refine TL.splitP 42 rfl (fun hg42 => ?_) (fun hg42 => ?_)
                · try dsimp only at hg42
                  (iterate 2 refine TL.passG rfl rfl rfl rfl ?_); refine TL.runG rfl rfl (pure_pick_true rfl rfl) rfl ?_; (iterate 2 refine TL.runG rfl rfl (pure_move rfl) rfl ?_); refine TL.runG rfl rfl (pure_eql rfl rfl) rfl ?_; refine TL.runG rfl rfl (pure_pick_true rfl rfl) rfl ?_; refine TL.run1 (pure_pick_false rfl rfl) rfl ?_; refine TL.run1 (pure_assign rfl) rfl ?_; refine TL.cutEnd (by repeat (first | exact Same.refl _ _ | refine Same.put rfl ?_)) rfl ?_
                  first | (simp only [Ctl, Hang, decide_eq_true_eq, Bool.false_eq_true, false_iff, true_iff, iff_true, iff_false, Bool.not_eq_true]; omega) | grind [Ctl, Hang]
                · try dsimp only at hg42
                  refine TL.runG rfl rfl (pure_move rfl) rfl ?_; refine TL.runG rfl rfl (pure_eql rfl rfl) rfl ?_; refine TL.runG rfl rfl (pure_pick_false rfl rfl) rfl ?_; refine TL.runG rfl rfl (pure_move rfl) rfl ?_; refine TL.splitP 46 rfl (fun hg46 => ?_) (fun hg46 => ?_)
                  · try dsimp only at hg46
                    refine TL.runG rfl rfl (pure_move rfl) rfl ?_; refine TL.runG rfl rfl (pure_eql rfl rfl) rfl ?_; refine TL.runG rfl rfl (pure_pick_true rfl rfl) rfl ?_; refine TL.run1 (pure_pick_false rfl rfl) rfl ?_; refine TL.run1 (pure_assign rfl) rfl ?_; refine TL.cutEnd (by repeat (first | exact Same.refl _ _ | refine Same.put rfl ?_)) rfl ?_
                    first | (simp only [Ctl, Hang, decide_eq_true_eq, Bool.false_eq_true, false_iff, true_iff, iff_true, iff_false, Bool.not_eq_true]; omega) | grind [Ctl, Hang]
                  · try dsimp only at hg46
                    (iterate 2 refine TL.passG rfl rfl rfl rfl ?_); refine TL.runG rfl rfl (pure_pick_false rfl rfl) rfl ?_; refine TL.run1 (pure_pick_false rfl rfl) rfl ?_; refine TL.run1 (pure_assign rfl) rfl ?_; refine TL.cutEnd (by repeat (first | exact Same.refl _ _ | refine Same.put rfl ?_)) rfl ?_
                    first | (simp only [Ctl, Hang, decide_eq_true_eq, Bool.false_eq_true, false_iff, true_iff, iff_true, iff_false, Bool.not_eq_true]; omega) | grind [Ctl, Hang]
      · try dsimp only at hg10
        refine TL.runG rfl rfl (pure_move rfl) rfl ?_; refine TL.runG rfl rfl (pure_eql rfl rfl) rfl ?_; refine TL.runG rfl rfl (pure_pick_false rfl rfl) rfl ?_; refine TL.runG rfl rfl (pure_move rfl) rfl ?_; refine TL.splitP 14 rfl (fun hg14 => ?_) (fun hg14 => ?_)
        · try dsimp only at hg14
          (iterate 2 refine TL.passG rfl rfl rfl rfl ?_); refine TL.runG rfl rfl (pure_pick_true rfl rfl) rfl ?_; refine TL.runG rfl rfl (pure_move rfl) rfl ?_; (iterate 2 refine TL.passG rfl rfl rfl rfl ?_); refine TL.runG rfl rfl (pure_pick_true rfl rfl) rfl ?_; refine TL.run1 (pure_pick_true rfl rfl) rfl ?_; refine TL.run1 (pure_move rfl) rfl ?_; refine TL.split 23 rfl (fun hg23 => ?_) (fun hg23 => ?_)
          · try dsimp only at hg23
            (iterate 14 refine TL.passG rfl rfl rfl rfl ?_); refine TL.run1 (pure_pick_true rfl rfl) rfl ?_; refine TL.run1 (pure_move rfl) rfl ?_; (iterate 10 refine TL.passG rfl rfl rfl rfl ?_); refine TL.run1 (pure_pick_true rfl rfl) rfl ?_; refine TL.run1 (pure_assign rfl) rfl ?_; refine TL.cutEnd (by repeat (first | exact Same.refl _ _ | refine Same.put rfl ?_)) rfl ?_
            first | (simp only [Ctl, Hang, decide_eq_true_eq, Bool.false_eq_true, false_iff, true_iff, iff_true, iff_false, Bool.not_eq_true]; omega) | grind [Ctl, Hang]
          · try dsimp only at hg23
            refine TL.runG rfl rfl (pure_move rfl) rfl ?_; refine TL.runG rfl rfl (pure_eql rfl rfl) rfl ?_; refine TL.runG rfl rfl (pure_move rfl) rfl ?_; refine TL.splitP 26 rfl (fun hg26 => ?_) (fun hg26 => ?_)
            · try dsimp only at hg26
              (iterate 2 refine TL.passG rfl rfl rfl rfl ?_); refine TL.runG rfl rfl (pure_pick_true rfl rfl) rfl ?_; (iterate 2 refine TL.runG rfl rfl (pure_move rfl) rfl ?_); refine TL.runG rfl rfl (pure_eql rfl rfl) rfl ?_; refine TL.runG rfl rfl (pure_move rfl) rfl ?_; refine TL.splitP 33 rfl (fun hg33 => ?_) (fun hg33 => ?_)
              · try dsimp only at hg33
                (iterate 2 refine TL.passG rfl rfl rfl rfl ?_); (iterate 2 refine TL.runG rfl rfl (pure_pick_true rfl rfl) rfl ?_); refine TL.run1 (pure_pick_false rfl rfl) rfl ?_; refine TL.run1 (pure_move rfl) rfl ?_; refine TL.split 39 rfl (fun hg39 => ?_) (fun hg39 => ?_)
                · try dsimp only at hg39
                  (iterate 10 refine TL.passG rfl rfl rfl rfl ?_); refine TL.run1 (pure_pick_true rfl rfl) rfl ?_; refine TL.run1 (pure_assign rfl) rfl ?_; refine TL.cutEnd (by repeat (first | exact Same.refl _ _ | refine Same.put rfl ?_)) rfl ?_
                  first | (simp only [Ctl, Hang, decide_eq_true_eq, Bool.false_eq_true, false_iff, true_iff, iff_true, iff_false, Bool.not_eq_true]; omega) | grind [Ctl, Hang]
                · try dsimp only at hg39
                  refine TL.runG rfl rfl (pure_move rfl) rfl ?_; refine TL.runG rfl rfl (pure_eql rfl rfl) rfl ?_; refine TL.runG rfl rfl (pure_move rfl) rfl ?_; refine TL.splitP 42 rfl (fun hg42 => ?_) (fun hg42 => ?_)
                  · try dsimp only at hg42
                    (iterate 2 refine TL.passG rfl rfl rfl rfl ?_); refine TL.runG rfl rfl (pure_pick_true rfl rfl) rfl ?_; (iterate 2 refine TL.runG rfl rfl (pure_move rfl) rfl ?_); refine TL.runG rfl rfl (pure_eql rfl rfl) rfl ?_; refine TL.runG rfl rfl (pure_pick_true rfl rfl) rfl ?_; refine TL.run1 (pure_pick_false rfl rfl) rfl ?_; refine TL.run1 (pure_assign rfl) rfl ?_; refine TL.cutEnd (by repeat (first | exact Same.refl _ _ | refine Same.put rfl ?_)) rfl ?_
                    first | (simp only [Ctl, Hang, decide_eq_true_eq, Bool.false_eq_true, false_iff, true_iff, iff_true, iff_false, Bool.not_eq_true]; omega) | grind [Ctl, Hang]
                  · try dsimp only at hg42
                    refine TL.runG rfl rfl (pure_move rfl) rfl ?_; refine TL.runG rfl rfl (pure_eql rfl rfl) rfl ?_; refine TL.runG rfl rfl (pure_pick_false rfl rfl) rfl ?_; refine TL.runG rfl rfl (pure_move rfl) rfl ?_; refine TL.splitP 46 rfl (fun hg46 => ?_) (fun hg46 => ?_)
                    · try dsimp only at hg46
                      refine TL.runG rfl rfl (pure_move rfl) rfl ?_; refine TL.runG rfl rfl (pure_eql rfl rfl) rfl ?_; refine TL.runG rfl rfl (pure_pick_true rfl rfl) rfl ?_; refine TL.run1 (pure_pick_false rfl rfl) rfl ?_; refine TL.run1 (pure_assign rfl) rfl ?_; refine TL.cutEnd (by repeat (first | exact Same.refl _ _ | refine Same.put rfl ?_)) rfl ?_
                      first | (simp only [Ctl, Hang, decide_eq_true_eq, Bool.false_eq_true, false_iff, true_iff, iff_true, iff_false, Bool.not_eq_true]; omega) | grind [Ctl, Hang]
                    · try dsimp only at hg46
                      (iterate 2 refine TL.passG rfl rfl rfl rfl ?_); refine TL.runG rfl rfl (pure_pick_false rfl rfl) rfl ?_; refine TL.run1 (pure_pick_false rfl rfl) rfl ?_; refine TL.run1 (pure_assign rfl) rfl ?_; refine TL.cutEnd (by repeat (first | exact Same.refl _ _ | refine Same.put rfl ?_)) rfl ?_
                      first | (simp only [Ctl, Hang, decide_eq_true_eq, Bool.false_eq_true, false_iff, true_iff, iff_true, iff_false, Bool.not_eq_true]; omega) | grind [Ctl, Hang]
              · try dsimp only at hg33
                refine TL.runG rfl rfl (pure_move rfl) rfl ?_; refine TL.runG rfl rfl (pure_eql rfl rfl) rfl ?_; refine TL.runG rfl rfl (pure_pick_false rfl rfl) rfl ?_; refine TL.runG rfl rfl (pure_pick_true rfl rfl) rfl ?_; refine TL.run1 (pure_pick_false rfl rfl) rfl ?_; refine TL.run1 (pure_move rfl) rfl ?_; refine TL.splitP 39 rfl (fun hg39 => ?_) (fun hg39 => ?_)
                · try dsimp only at hg39
                  (iterate 10 refine TL.passG rfl rfl rfl rfl ?_); refine TL.run1 (pure_pick_true rfl rfl) rfl ?_; refine TL.run1 (pure_assign rfl) rfl ?_; refine TL.cutEnd (by repeat (first | exact Same.refl _ _ | refine Same.put rfl ?_)) rfl ?_
                  first | (simp only [Ctl, Hang, decide_eq_true_eq, Bool.false_eq_true, false_iff, true_iff, iff_true, iff_false, Bool.not_eq_true]; omega) | grind [Ctl, Hang]
                · try dsimp only at hg39
                  refine TL.runG rfl rfl (pure_move rfl) rfl ?_; refine TL.runG rfl rfl (pure_eql rfl rfl) rfl ?_; refine TL.runG rfl rfl (pure_move rfl) rfl ?_; refine TL.splitP 42 rfl (fun hg42 => ?_) (fun hg42 => ?_)
                  · try dsimp only at hg42
                    (iterate 2 refine TL.passG rfl rfl rfl rfl ?_); refine TL.runG rfl rfl (pure_pick_true rfl rfl) rfl ?_; (iterate 2 refine TL.runG rfl rfl (pure_move rfl) rfl ?_); refine TL.runG rfl rfl (pure_eql rfl rfl) rfl ?_; refine TL.runG rfl rfl (pure_pick_true rfl rfl) rfl ?_; refine TL.run1 (pure_pick_false rfl rfl) rfl ?_; refine TL.run1 (pure_assign rfl) rfl ?_; refine TL.cutEnd (by repeat (first | exact Same.refl _ _ | refine Same.put rfl ?_)) rfl ?_
                    first | (simp only [Ctl, Hang, decide_eq_true_eq, Bool.false_eq_true, false_iff, true_iff, iff_true, iff_false, Bool.not_eq_true]; omega) | grind [Ctl, Hang]
                  · try dsimp only at hg42
                    refine TL.runG rfl rfl (pure_move rfl) rfl ?_; refine TL.runG rfl rfl (pure_eql rfl rfl) rfl ?_; refine TL.runG rfl rfl (pure_pick_false rfl rfl) rfl ?_; refine TL.runG rfl rfl (pure_move rfl) rfl ?_; refine TL.splitP 46 rfl (fun hg46 => ?_) (fun hg46 => ?_)
                    · try dsimp only at hg46
                      refine TL.runG rfl rfl (pure_move rfl) rfl ?_; refine TL.runG rfl rfl (pure_eql rfl rfl) rfl ?_; refine TL.runG rfl rfl (pure_pick_true rfl rfl) rfl ?_; refine TL.run1 (pure_pick_false rfl rfl) rfl ?_; refine TL.run1 (pure_assign rfl) rfl ?_; refine TL.cutEnd (by repeat (first | exact Same.refl _ _ | refine Same.put rfl ?_)) rfl ?_
                      first | (simp only [Ctl, Hang, decide_eq_true_eq, Bool.false_eq_true, false_iff, true_iff, iff_true, iff_false, Bool.not_eq_true]; omega) | grind [Ctl, Hang]
                    · try dsimp only at hg46
                      (iterate 2 refine TL.passG rfl rfl rfl rfl ?_); refine TL.runG rfl rfl (pure_pick_false rfl rfl) rfl ?_; refine TL.run1 (pure_pick_false rfl rfl) rfl ?_; refine TL.run1 (pure_assign rfl) rfl ?_; refine TL.cutEnd (by repeat (first | exact Same.refl _ _ | refine Same.put rfl ?_)) rfl ?_
                      first | (simp only [Ctl, Hang, decide_eq_true_eq, Bool.false_eq_true, false_iff, true_iff, iff_true, iff_false, Bool.not_eq_true]; omega) | grind [Ctl, Hang]
            · try dsimp only at hg26
              refine TL.runG rfl rfl (pure_move rfl) rfl ?_; refine TL.runG rfl rfl (pure_eql rfl rfl) rfl ?_; refine TL.runG rfl rfl (pure_pick_false rfl rfl) rfl ?_; refine TL.runG rfl rfl (pure_move rfl) rfl ?_; refine TL.splitP 30 rfl (fun hg30 => ?_) (fun hg30 => ?_)
              · try dsimp only at hg30
                refine TL.runG rfl rfl (pure_move rfl) rfl ?_; refine TL.runG rfl rfl (pure_eql rfl rfl) rfl ?_; refine TL.runG rfl rfl (pure_move rfl) rfl ?_; refine TL.splitP 33 rfl (fun hg33 => ?_) (fun hg33 => ?_)
                · try dsimp only at hg33
                  (iterate 2 refine TL.passG rfl rfl rfl rfl ?_); (iterate 2 refine TL.runG rfl rfl (pure_pick_true rfl rfl) rfl ?_); refine TL.run1 (pure_pick_false rfl rfl) rfl ?_; refine TL.run1 (pure_move rfl) rfl ?_; refine TL.split 39 rfl (fun hg39 => ?_) (fun hg39 => ?_)
                  · try dsimp only at hg39
                    (iterate 10 refine TL.passG rfl rfl rfl rfl ?_); refine TL.run1 (pure_pick_true rfl rfl) rfl ?_; refine TL.run1 (pure_assign rfl) rfl ?_; refine TL.cutEnd (by repeat (first | exact Same.refl _ _ | refine Same.put rfl ?_)) rfl ?_
                    first | (simp only [Ctl, Hang, decide_eq_true_eq, Bool.false_eq_true, false_iff, true_iff, iff_true, iff_false, Bool.not_eq_true]; omega) | grind [Ctl, Hang]
                  · try dsimp only at hg39
                    refine TL.runG rfl rfl (pure_move rfl) rfl ?_; refine TL.runG rfl rfl (pure_eql rfl rfl) rfl ?_; refine TL.runG rfl rfl (pure_move rfl) rfl ?_; refine TL.splitP 42 rfl (fun hg42 => ?_) (fun hg42 => ?_)
                    · try dsimp only at hg42
                      (iterate 2 refine TL.passG rfl rfl rfl rfl ?_); refine TL.runG rfl rfl (pure_pick_true rfl rfl) rfl ?_; (iterate 2 refine TL.runG rfl rfl (pure_move rfl) rfl ?_); refine TL.runG rfl rfl (pure_eql rfl rfl) rfl ?_; refine TL.runG rfl rfl (pure_pick_true rfl rfl) rfl ?_; refine TL.run1 (pure_pick_false rfl rfl) rfl ?_; refine TL.run1 (pure_assign rfl) rfl ?_; refine TL.cutEnd (by repeat (first | exact Same.refl _ _ | refine Same.put rfl ?_)) rfl ?_
                      first | (simp only [Ctl, Hang, decide_eq_true_eq, Bool.false_eq_true, false_iff, true_iff, iff_true, iff_false, Bool.not_eq_true]; omega) | grind [Ctl, Hang]
                    · try dsimp only at hg42
                      refine TL.runG rfl rfl (pure_move rfl) rfl ?_; refine TL.runG rfl rfl (pure_eql rfl rfl) rfl ?_; refine TL.runG rfl rfl (pure_pick_false rfl rfl) rfl ?_; refine TL.runG rfl rfl (pure_move rfl) rfl ?_; refine TL.splitP 46 rfl (fun hg46 => ?_) (fun hg46 => ?_)
                      · try dsimp only at hg46
                        refine TL.runG rfl rfl (pure_move rfl) rfl ?_; refine TL.runG rfl rfl (pure_eql rfl rfl) rfl ?_; refine TL.runG rfl rfl (pure_pick_true rfl rfl) rfl ?_; refine TL.run1 (pure_pick_false rfl rfl) rfl ?_; refine TL.run1 (pure_assign rfl) rfl ?_; refine TL.cutEnd (by repeat (first | exact Same.refl _ _ | refine Same.put rfl ?_)) rfl ?_
                        first | (simp only [Ctl, Hang, decide_eq_true_eq, Bool.false_eq_true, false_iff, true_iff, iff_true, iff_false, Bool.not_eq_true]; omega) | grind [Ctl, Hang]
                      · try dsimp only at hg46
                        (iterate 2 refine TL.passG rfl rfl rfl rfl ?_); refine TL.runG rfl rfl (pure_pick_false rfl rfl) rfl ?_; refine TL.run1 (pure_pick_false rfl rfl) rfl ?_; refine TL.run1 (pure_assign rfl) rfl ?_; refine TL.cutEnd (by repeat (first | exact Same.refl _ _ | refine Same.put rfl ?_)) rfl ?_
                        first | (simp only [Ctl, Hang, decide_eq_true_eq, Bool.false_eq_true, false_iff, true_iff, iff_true, iff_false, Bool.not_eq_true]; omega) | grind [Ctl, Hang]
                · try dsimp only at hg33
                  refine TL.runG rfl rfl (pure_move rfl) rfl ?_; refine TL.runG rfl rfl (pure_eql rfl rfl) rfl ?_; refine TL.runG rfl rfl (pure_pick_false rfl rfl) rfl ?_; refine TL.runG rfl rfl (pure_pick_true rfl rfl) rfl ?_; refine TL.run1 (pure_pick_false rfl rfl) rfl ?_; refine TL.run1 (pure_move rfl) rfl ?_; refine TL.splitP 39 rfl (fun hg39 => ?_) (fun hg39 => ?_)
                  · try dsimp only at hg39
                    (iterate 10 refine TL.passG rfl rfl rfl rfl ?_); refine TL.run1 (pure_pick_true rfl rfl) rfl ?_; refine TL.run1 (pure_assign rfl) rfl ?_; refine TL.cutEnd (by repeat (first | exact Same.refl _ _ | refine Same.put rfl ?_)) rfl ?_
                    first | (simp only [Ctl, Hang, decide_eq_true_eq, Bool.false_eq_true, false_iff, true_iff, iff_true, iff_false, Bool.not_eq_true]; omega) | grind [Ctl, Hang]
                  · try dsimp only at hg39
                    refine TL.runG rfl rfl (pure_move rfl) rfl ?_; refine TL.runG rfl rfl (pure_eql rfl rfl) rfl ?_; refine TL.runG rfl rfl (pure_move rfl) rfl ?_; refine TL.splitP 42 rfl (fun hg42 => ?_) (fun hg42 => ?_)
                    · try dsimp only at hg42
                      (iterate 2 refine TL.passG rfl rfl rfl rfl ?_); refine TL.runG rfl rfl (pure_pick_true rfl rfl) rfl ?_; (iterate 2 refine TL.runG rfl rfl (pure_move rfl) rfl ?_); refine TL.runG rfl rfl (pure_eql rfl rfl) rfl ?_; refine TL.runG rfl rfl (pure_pick_true rfl rfl) rfl ?_; refine TL.run1 (pure_pick_false rfl rfl) rfl ?_; refine TL.run1 (pure_assign rfl) rfl ?_; refine TL.cutEnd (by repeat (first | exact Same.refl _ _ | refine Same.put rfl ?_)) rfl ?_
                      first | (simp only [Ctl, Hang, decide_eq_true_eq, Bool.false_eq_true, false_iff, true_iff, iff_true, iff_false, Bool.not_eq_true]; omega) | grind [Ctl, Hang]
                    · try dsimp only at hg42
                      refine TL.runG rfl rfl (pure_move rfl) rfl ?_; refine TL.runG rfl rfl (pure_eql rfl rfl) rfl ?_; refine TL.runG rfl rfl (pure_pick_false rfl rfl) rfl ?_; refine TL.runG rfl rfl (pure_move rfl) rfl ?_; refine TL.splitP 46 rfl (fun hg46 => ?_) (fun hg46 => ?_)
                      · try dsimp only at hg46
                        refine TL.runG rfl rfl (pure_move rfl) rfl ?_; refine TL.runG rfl rfl (pure_eql rfl rfl) rfl ?_; refine TL.runG rfl rfl (pure_pick_true rfl rfl) rfl ?_; refine TL.run1 (pure_pick_false rfl rfl) rfl ?_; refine TL.run1 (pure_assign rfl) rfl ?_; refine TL.cutEnd (by repeat (first | exact Same.refl _ _ | refine Same.put rfl ?_)) rfl ?_
                        first | (simp only [Ctl, Hang, decide_eq_true_eq, Bool.false_eq_true, false_iff, true_iff, iff_true, iff_false, Bool.not_eq_true]; omega) | grind [Ctl, Hang]
                      · try dsimp only at hg46
                        (iterate 2 refine TL.passG rfl rfl rfl rfl ?_); refine TL.runG rfl rfl (pure_pick_false rfl rfl) rfl ?_; refine TL.run1 (pure_pick_false rfl rfl) rfl ?_; refine TL.run1 (pure_assign rfl) rfl ?_; refine TL.cutEnd (by repeat (first | exact Same.refl _ _ | refine Same.put rfl ?_)) rfl ?_
                        first | (simp only [Ctl, Hang, decide_eq_true_eq, Bool.false_eq_true, false_iff, true_iff, iff_true, iff_false, Bool.not_eq_true]; omega) | grind [Ctl, Hang]
              · try dsimp only at hg30
                (iterate 6 refine TL.passG rfl rfl rfl rfl ?_); refine TL.runG rfl rfl (pure_pick_false rfl rfl) rfl ?_; refine TL.run1 (pure_pick_false rfl rfl) rfl ?_; refine TL.run1 (pure_move rfl) rfl ?_; refine TL.split 39 rfl (fun hg39 => ?_) (fun hg39 => ?_)
                · try dsimp only at hg39
                  (iterate 10 refine TL.passG rfl rfl rfl rfl ?_); refine TL.run1 (pure_pick_true rfl rfl) rfl ?_; refine TL.run1 (pure_assign rfl) rfl ?_; refine TL.cutEnd (by repeat (first | exact Same.refl _ _ | refine Same.put rfl ?_)) rfl ?_
                  first | (simp only [Ctl, Hang, decide_eq_true_eq, Bool.false_eq_true, false_iff, true_iff, iff_true, iff_false, Bool.not_eq_true]; omega) | grind [Ctl, Hang]
                · try dsimp only at hg39
                  refine TL.runG rfl rfl (pure_move rfl) rfl ?_; refine TL.runG rfl rfl (pure_eql rfl rfl) rfl ?_; refine TL.runG rfl rfl (pure_move rfl) rfl ?_; refine TL.splitP 42 rfl (fun hg42 => ?_) (fun hg42 => ?_)
                  · try dsimp only at hg42
                    (iterate 2 refine TL.passG rfl rfl rfl rfl ?_); refine TL.runG rfl rfl (pure_pick_true rfl rfl) rfl ?_; (iterate 2 refine TL.runG rfl rfl (pure_move rfl) rfl ?_); refine TL.runG rfl rfl (pure_eql rfl rfl) rfl ?_; refine TL.runG rfl rfl (pure_pick_true rfl rfl) rfl ?_; refine TL.run1 (pure_pick_false rfl rfl) rfl ?_; refine TL.run1 (pure_assign rfl) rfl ?_; refine TL.cutEnd (by repeat (first | exact Same.refl _ _ | refine Same.put rfl ?_)) rfl ?_
                    first | (simp only [Ctl, Hang, decide_eq_true_eq, Bool.false_eq_true, false_iff, true_iff, iff_true, iff_false, Bool.not_eq_true]; omega) | grind [Ctl, Hang]
                  · try dsimp only at hg42
                    refine TL.runG rfl rfl (pure_move rfl) rfl ?_; refine TL.runG rfl rfl (pure_eql rfl rfl) rfl ?_; refine TL.runG rfl rfl (pure_pick_false rfl rfl) rfl ?_; refine TL.runG rfl rfl (pure_move rfl) rfl ?_; refine TL.splitP 46 rfl (fun hg46 => ?_) (fun hg46 => ?_)
                    · try dsimp only at hg46
                      refine TL.runG rfl rfl (pure_move rfl) rfl ?_; refine TL.runG rfl rfl (pure_eql rfl rfl) rfl ?_; refine TL.runG rfl rfl (pure_pick_true rfl rfl) rfl ?_; refine TL.run1 (pure_pick_false rfl rfl) rfl ?_; refine TL.run1 (pure_assign rfl) rfl ?_; refine TL.cutEnd (by repeat (first | exact Same.refl _ _ | refine Same.put rfl ?_)) rfl ?_
                      first | (simp only [Ctl, Hang, decide_eq_true_eq, Bool.false_eq_true, false_iff, true_iff, iff_true, iff_false, Bool.not_eq_true]; omega) | grind [Ctl, Hang]
                    · try dsimp only at hg46
                      (iterate 2 refine TL.passG rfl rfl rfl rfl ?_); refine TL.runG rfl rfl (pure_pick_false rfl rfl) rfl ?_; refine TL.run1 (pure_pick_false rfl rfl) rfl ?_; refine TL.run1 (pure_assign rfl) rfl ?_; refine TL.cutEnd (by repeat (first | exact Same.refl _ _ | refine Same.put rfl ?_)) rfl ?_
                      first | (simp only [Ctl, Hang, decide_eq_true_eq, Bool.false_eq_true, false_iff, true_iff, iff_true, iff_false, Bool.not_eq_true]; omega) | grind [Ctl, Hang]
        · try dsimp only at hg14
          refine TL.runG rfl rfl (pure_move rfl) rfl ?_; refine TL.runG rfl rfl (pure_eql rfl rfl) rfl ?_; refine TL.runG rfl rfl (pure_pick_false rfl rfl) rfl ?_; refine TL.runG rfl rfl (pure_move rfl) rfl ?_; refine TL.splitP 18 rfl (fun hg18 => ?_) (fun hg18 => ?_)
          · try dsimp only at hg18
            (iterate 2 refine TL.passG rfl rfl rfl rfl ?_); refine TL.runG rfl rfl (pure_pick_true rfl rfl) rfl ?_; refine TL.run1 (pure_pick_true rfl rfl) rfl ?_; refine TL.run1 (pure_move rfl) rfl ?_; refine TL.split 23 rfl (fun hg23 => ?_) (fun hg23 => ?_)
            · try dsimp only at hg23
              (iterate 14 refine TL.passG rfl rfl rfl rfl ?_); refine TL.run1 (pure_pick_true rfl rfl) rfl ?_; refine TL.run1 (pure_move rfl) rfl ?_; (iterate 10 refine TL.passG rfl rfl rfl rfl ?_); refine TL.run1 (pure_pick_true rfl rfl) rfl ?_; refine TL.run1 (pure_assign rfl) rfl ?_; refine TL.cutEnd (by repeat (first | exact Same.refl _ _ | refine Same.put rfl ?_)) rfl ?_
              first | (simp only [Ctl, Hang, decide_eq_true_eq, Bool.false_eq_true, false_iff, true_iff, iff_true, iff_false, Bool.not_eq_true]; omega) | grind [Ctl, Hang]
            · try dsimp only at hg23
              refine TL.runG rfl rfl (pure_move rfl) rfl ?_; refine TL.runG rfl rfl (pure_eql rfl rfl) rfl ?_; refine TL.runG rfl rfl (pure_move rfl) rfl ?_; refine TL.splitP 26 rfl (fun hg26 => ?_) (fun hg26 => ?_)
              · try dsimp only at hg26
                (iterate 2 refine TL.passG rfl rfl rfl rfl ?_); refine TL.runG rfl rfl (pure_pick_true rfl rfl) rfl ?_; (iterate 2 refine TL.runG rfl rfl (pure_move rfl) rfl ?_); refine TL.runG rfl rfl (pure_eql rfl rfl) rfl ?_; refine TL.runG rfl rfl (pure_move rfl) rfl ?_; refine TL.splitP 33 rfl (fun hg33 => ?_) (fun hg33 => ?_)
                · try dsimp only at hg33
                  (iterate 2 refine TL.passG rfl rfl rfl rfl ?_); (iterate 2 refine TL.runG rfl rfl (pure_pick_true rfl rfl) rfl ?_); refine TL.run1 (pure_pick_false rfl rfl) rfl ?_; refine TL.run1 (pure_move rfl) rfl ?_; refine TL.split 39 rfl (fun hg39 => ?_) (fun hg39 => ?_)
                  · try dsimp only at hg39
                    (iterate 10 refine TL.passG rfl rfl rfl rfl ?_); refine TL.run1 (pure_pick_true rfl rfl) rfl ?_; refine TL.run1 (pure_assign rfl) rfl ?_; refine TL.cutEnd (by repeat (first | exact Same.refl _ _ | refine Same.put rfl ?_)) rfl ?_
                    first | (simp only [Ctl, Hang, decide_eq_true_eq, Bool.false_eq_true, false_iff, true_iff, iff_true, iff_false, Bool.not_eq_true]; omega) | grind [Ctl, Hang]
                  · try dsimp only at hg39
                    refine TL.runG rfl rfl (pure_move rfl) rfl ?_; refine TL.runG rfl rfl (pure_eql rfl rfl) rfl ?_; refine TL.runG rfl rfl (pure_move rfl) rfl ?_; refine TL.splitP 42 rfl (fun hg42 => ?_) (fun hg42 => ?_)
                    · try dsimp only at hg42
                      (iterate 2 refine TL.passG rfl rfl rfl rfl ?_); refine TL.runG rfl rfl (pure_pick_true rfl rfl) rfl ?_; (iterate 2 refine TL.runG rfl rfl (pure_move rfl) rfl ?_); refine TL.runG rfl rfl (pure_eql rfl rfl) rfl ?_; refine TL.runG rfl rfl (pure_pick_true rfl rfl) rfl ?_; refine TL.run1 (pure_pick_false rfl rfl) rfl ?_; refine TL.run1 (pure_assign rfl) rfl ?_; refine TL.cutEnd (by repeat (first | exact Same.refl _ _ | refine Same.put rfl ?_)) rfl ?_
                      first | (simp only [Ctl, Hang, decide_eq_true_eq, Bool.false_eq_true, false_iff, true_iff, iff_true, iff_false, Bool.not_eq_true]; omega) | grind [Ctl, Hang]
                    · try dsimp only at hg42
                      refine TL.runG rfl rfl (pure_move rfl) rfl ?_; refine TL.runG rfl rfl (pure_eql rfl rfl) rfl ?_; refine TL.runG rfl rfl (pure_pick_false rfl rfl) rfl ?_; refine TL.runG rfl rfl (pure_move rfl) rfl ?_; refine TL.splitP 46 rfl (fun hg46 => ?_) (fun hg46 => ?_)
                      · try dsimp only at hg46
                        refine TL.runG rfl rfl (pure_move rfl) rfl ?_; refine TL.runG rfl rfl (pure_eql rfl rfl) rfl ?_; refine TL.runG rfl rfl (pure_pick_true rfl rfl) rfl ?_; refine TL.run1 (pure_pick_false rfl rfl) rfl ?_; refine TL.run1 (pure_assign rfl) rfl ?_; refine TL.cutEnd (by repeat (first | exact Same.refl _ _ | refine Same.put rfl ?_)) rfl ?_
                        first | (simp only [Ctl, Hang, decide_eq_true_eq, Bool.false_eq_true, false_iff, true_iff, iff_true, iff_false, Bool.not_eq_true]; omega) | grind [Ctl, Hang]
                      · try dsimp only at hg46
                        (iterate 2 refine TL.passG rfl rfl rfl rfl ?_); refine TL.runG rfl rfl (pure_pick_false rfl rfl) rfl ?_; refine TL.run1 (pure_pick_false rfl rfl) rfl ?_; refine TL.run1 (pure_assign rfl) rfl ?_; refine TL.cutEnd (by repeat (first | exact Same.refl _ _ | refine Same.put rfl ?_)) rfl ?_
                        first | (simp only [Ctl, Hang, decide_eq_true_eq, Bool.false_eq_true, false_iff, true_iff, iff_true, iff_false, Bool.not_eq_true]; omega) | grind [Ctl, Hang]
                · try dsimp only at hg33
                  refine TL.runG rfl rfl (pure_move rfl) rfl ?_; refine TL.runG rfl rfl (pure_eql rfl rfl) rfl ?_; refine TL.runG rfl rfl (pure_pick_false rfl rfl) rfl ?_; refine TL.runG rfl rfl (pure_pick_true rfl rfl) rfl ?_; refine TL.run1 (pure_pick_false rfl rfl) rfl ?_; refine TL.run1 (pure_move rfl) rfl ?_; refine TL.splitP 39 rfl (fun hg39 => ?_) (fun hg39 => ?_)
                  · try dsimp only at hg39
                    (iterate 10 refine TL.passG rfl rfl rfl rfl ?_); refine TL.run1 (pure_pick_true rfl rfl) rfl ?_; refine TL.run1 (pure_assign rfl) rfl ?_; refine TL.cutEnd (by repeat (first | exact Same.refl _ _ | refine Same.put rfl ?_)) rfl ?_
                    first | (simp only [Ctl, Hang, decide_eq_true_eq, Bool.false_eq_true, false_iff, true_iff, iff_true, iff_false, Bool.not_eq_true]; omega) | grind [Ctl, Hang]
                  · try dsimp only at hg39
                    refine TL.runG rfl rfl (pure_move rfl) rfl ?_; refine TL.runG rfl rfl (pure_eql rfl rfl) rfl ?_; refine TL.runG rfl rfl (pure_move rfl) rfl ?_; refine TL.splitP 42 rfl (fun hg42 => ?_) (fun hg42 => ?_)
                    · try dsimp only at hg42
                      (iterate 2 refine TL.passG rfl rfl rfl rfl ?_); refine TL.runG rfl rfl (pure_pick_true rfl rfl) rfl ?_; (iterate 2 refine TL.runG rfl rfl (pure_move rfl) rfl ?_); refine TL.runG rfl rfl (pure_eql rfl rfl) rfl ?_; refine TL.runG rfl rfl (pure_pick_true rfl rfl) rfl ?_; refine TL.run1 (pure_pick_false rfl rfl) rfl ?_; refine TL.run1 (pure_assign rfl) rfl ?_; refine TL.cutEnd (by repeat (first | exact Same.refl _ _ | refine Same.put rfl ?_)) rfl ?_
                      first | (simp only [Ctl, Hang, decide_eq_true_eq, Bool.false_eq_true, false_iff, true_iff, iff_true, iff_false, Bool.not_eq_true]; omega) | grind [Ctl, Hang]
                    · try dsimp only at hg42
                      refine TL.runG rfl rfl (pure_move rfl) rfl ?_; refine TL.runG rfl rfl (pure_eql rfl rfl) rfl ?_; refine TL.runG rfl rfl (pure_pick_false rfl rfl) rfl ?_; refine TL.runG rfl rfl (pure_move rfl) rfl ?_; refine TL.splitP 46 rfl (fun hg46 => ?_) (fun hg46 => ?_)
                      · try dsimp only at hg46
                        refine TL.runG rfl rfl (pure_move rfl) rfl ?_; refine TL.runG rfl rfl (pure_eql rfl rfl) rfl ?_; refine TL.runG rfl rfl (pure_pick_true rfl rfl) rfl ?_; refine TL.run1 (pure_pick_false rfl rfl) rfl ?_; refine TL.run1 (pure_assign rfl) rfl ?_; refine TL.cutEnd (by repeat (first | exact Same.refl _ _ | refine Same.put rfl ?_)) rfl ?_
                        first | (simp only [Ctl, Hang, decide_eq_true_eq, Bool.false_eq_true, false_iff, true_iff, iff_true, iff_false, Bool.not_eq_true]; omega) | grind [Ctl, Hang]
                      · try dsimp only at hg46
                        (iterate 2 refine TL.passG rfl rfl rfl rfl ?_); refine TL.runG rfl rfl (pure_pick_false rfl rfl) rfl ?_; refine TL.run1 (pure_pick_false rfl rfl) rfl ?_; refine TL.run1 (pure_assign rfl) rfl ?_; refine TL.cutEnd (by repeat (first | exact Same.refl _ _ | refine Same.put rfl ?_)) rfl ?_
                        first | (simp only [Ctl, Hang, decide_eq_true_eq, Bool.false_eq_true, false_iff, true_iff, iff_true, iff_false, Bool.not_eq_true]; omega) | grind [Ctl, Hang]
              · try dsimp only at hg26
                refine TL.runG rfl rfl (pure_move rfl) rfl ?_; refine TL.runG rfl rfl (pure_eql rfl rfl) rfl ?_; refine TL.runG rfl rfl (pure_pick_false rfl rfl) rfl ?_; refine TL.runG rfl rfl (pure_move rfl) rfl ?_; refine TL.splitP 30 rfl (fun hg30 => ?_) (fun hg30 => ?_)
                · try dsimp only at hg30
                  refine TL.runG rfl rfl (pure_move rfl) rfl ?_; refine TL.runG rfl rfl (pure_eql rfl rfl) rfl ?_; refine TL.runG rfl rfl (pure_move rfl) rfl ?_; refine TL.splitP 33 rfl (fun hg33 => ?_) (fun hg33 => ?_)
                  · try dsimp only at hg33
                    (iterate 2 refine TL.passG rfl rfl rfl rfl ?_); (iterate 2 refine TL.runG rfl rfl (pure_pick_true rfl rfl) rfl ?_); refine TL.run1 (pure_pick_false rfl rfl) rfl ?_; refine TL.run1 (pure_move rfl) rfl ?_; refine TL.split 39 rfl (fun hg39 => ?_) (fun hg39 => ?_)
                    · try dsimp only at hg39
                      (iterate 10 refine TL.passG rfl rfl rfl rfl ?_); refine TL.run1 (pure_pick_true rfl rfl) rfl ?_; refine TL.run1 (pure_assign rfl) rfl ?_; refine TL.cutEnd (by repeat (first | exact Same.refl _ _ | refine Same.put rfl ?_)) rfl ?_
                      first | (simp only [Ctl, Hang, decide_eq_true_eq, Bool.false_eq_true, false_iff, true_iff, iff_true, iff_false, Bool.not_eq_true]; omega) | grind [Ctl, Hang]
                    · try dsimp only at hg39
                      refine TL.runG rfl rfl (pure_move rfl) rfl ?_; refine TL.runG rfl rfl (pure_eql rfl rfl) rfl ?_; refine TL.runG rfl rfl (pure_move rfl) rfl ?_; refine TL.splitP 42 rfl (fun hg42 => ?_) (fun hg42 => ?_)
                      · try dsimp only at hg42
                        (iterate 2 refine TL.passG rfl rfl rfl rfl ?_); refine TL.runG rfl rfl (pure_pick_true rfl rfl) rfl ?_; (iterate 2 refine TL.runG rfl rfl (pure_move rfl) rfl ?_); refine TL.runG rfl rfl (pure_eql rfl rfl) rfl ?_; refine TL.runG rfl rfl (pure_pick_true rfl rfl) rfl ?_; refine TL.run1 (pure_pick_false rfl rfl) rfl ?_; refine TL.run1 (pure_assign rfl) rfl ?_; refine TL.cutEnd (by repeat (first | exact Same.refl _ _ | refine Same.put rfl ?_)) rfl ?_
                        first | (simp only [Ctl, Hang, decide_eq_true_eq, Bool.false_eq_true, false_iff, true_iff, iff_true, iff_false, Bool.not_eq_true]; omega) | grind [Ctl, Hang]
                      · try dsimp only at hg42
                        refine TL.runG rfl rfl (pure_move rfl) rfl ?_; refine TL.runG rfl rfl (pure_eql rfl rfl) rfl ?_; refine TL.runG rfl rfl (pure_pick_false rfl rfl) rfl ?_; refine TL.runG rfl rfl (pure_move rfl) rfl ?_; refine TL.splitP 46 rfl (fun hg46 => ?_) (fun hg46 => ?_)
                        · try dsimp only at hg46
                          refine TL.runG rfl rfl (pure_move rfl) rfl ?_; refine TL.runG rfl rfl (pure_eql rfl rfl) rfl ?_; refine TL.runG rfl rfl (pure_pick_true rfl rfl) rfl ?_; refine TL.run1 (pure_pick_false rfl rfl) rfl ?_; refine TL.run1 (pure_assign rfl) rfl ?_; refine TL.cutEnd (by repeat (first | exact Same.refl _ _ | refine Same.put rfl ?_)) rfl ?_
                          first | (simp only [Ctl, Hang, decide_eq_true_eq, Bool.false_eq_true, false_iff, true_iff, iff_true, iff_false, Bool.not_eq_true]; omega) | grind [Ctl, Hang]
                        · try dsimp only at hg46
                          (iterate 2 refine TL.passG rfl rfl rfl rfl ?_); refine TL.runG rfl rfl (pure_pick_false rfl rfl) rfl ?_; refine TL.run1 (pure_pick_false rfl rfl) rfl ?_; refine TL.run1 (pure_assign rfl) rfl ?_; refine TL.cutEnd (by repeat (first | exact Same.refl _ _ | refine Same.put rfl ?_)) rfl ?_
                          first | (simp only [Ctl, Hang, decide_eq_true_eq, Bool.false_eq_true, false_iff, true_iff, iff_true, iff_false, Bool.not_eq_true]; omega) | grind [Ctl, Hang]
                  · try dsimp only at hg33
                    refine TL.runG rfl rfl (pure_move rfl) rfl ?_; refine TL.runG rfl rfl (pure_eql rfl rfl) rfl ?_; refine TL.runG rfl rfl (pure_pick_false rfl rfl) rfl ?_; refine TL.runG rfl rfl (pure_pick_true rfl rfl) rfl ?_; refine TL.run1 (pure_pick_false rfl rfl) rfl ?_; refine TL.run1 (pure_move rfl) rfl ?_; refine TL.splitP 39 rfl (fun hg39 => ?_) (fun hg39 => ?_)
                    · try dsimp only at hg39
                      (iterate 10 refine TL.passG rfl rfl rfl rfl ?_); refine TL.run1 (pure_pick_true rfl rfl) rfl ?_; refine TL.run1 (pure_assign rfl) rfl ?_; refine TL.cutEnd (by repeat (first | exact Same.refl _ _ | refine Same.put rfl ?_)) rfl ?_
                      first | (simp only [Ctl, Hang, decide_eq_true_eq, Bool.false_eq_true, false_iff, true_iff, iff_true, iff_false, Bool.not_eq_true]; omega) | grind [Ctl, Hang]
                    · try dsimp only at hg39
                      refine TL.runG rfl rfl (pure_move rfl) rfl ?_; refine TL.runG rfl rfl (pure_eql rfl rfl) rfl ?_; refine TL.runG rfl rfl (pure_move rfl) rfl ?_; refine TL.splitP 42 rfl (fun hg42 => ?_) (fun hg42 => ?_)
                      · try dsimp only at hg42
                        (iterate 2 refine TL.passG rfl rfl rfl rfl ?_); refine TL.runG rfl rfl (pure_pick_true rfl rfl) rfl ?_; (iterate 2 refine TL.runG rfl rfl (pure_move rfl) rfl ?_); refine TL.runG rfl rfl (pure_eql rfl rfl) rfl ?_; refine TL.runG rfl rfl (pure_pick_true rfl rfl) rfl ?_; refine TL.run1 (pure_pick_false rfl rfl) rfl ?_; refine TL.run1 (pure_assign rfl) rfl ?_; refine TL.cutEnd (by repeat (first | exact Same.refl _ _ | refine Same.put rfl ?_)) rfl ?_
                        first | (simp only [Ctl, Hang, decide_eq_true_eq, Bool.false_eq_true, false_iff, true_iff, iff_true, iff_false, Bool.not_eq_true]; omega) | grind [Ctl, Hang]
                      · try dsimp only at hg42
                        refine TL.runG rfl rfl (pure_move rfl) rfl ?_; refine TL.runG rfl rfl (pure_eql rfl rfl) rfl ?_; refine TL.runG rfl rfl (pure_pick_false rfl rfl) rfl ?_; refine TL.runG rfl rfl (pure_move rfl) rfl ?_; refine TL.splitP 46 rfl (fun hg46 => ?_) (fun hg46 => ?_)
                        · try dsimp only at hg46
                          refine TL.runG rfl rfl (pure_move rfl) rfl ?_; refine TL.runG rfl rfl (pure_eql rfl rfl) rfl ?_; refine TL.runG rfl rfl (pure_pick_true rfl rfl) rfl ?_; refine TL.run1 (pure_pick_false rfl rfl) rfl ?_; refine TL.run1 (pure_assign rfl) rfl ?_; refine TL.cutEnd (by repeat (first | exact Same.refl _ _ | refine Same.put rfl ?_)) rfl ?_
                          first | (simp only [Ctl, Hang, decide_eq_true_eq, Bool.false_eq_true, false_iff, true_iff, iff_true, iff_false, Bool.not_eq_true]; omega) | grind [Ctl, Hang]
                        · try dsimp only at hg46
                          (iterate 2 refine TL.passG rfl rfl rfl rfl ?_); refine TL.runG rfl rfl (pure_pick_false rfl rfl) rfl ?_; refine TL.run1 (pure_pick_false rfl rfl) rfl ?_; refine TL.run1 (pure_assign rfl) rfl ?_; refine TL.cutEnd (by repeat (first | exact Same.refl _ _ | refine Same.put rfl ?_)) rfl ?_
                          first | (simp only [Ctl, Hang, decide_eq_true_eq, Bool.false_eq_true, false_iff, true_iff, iff_true, iff_false, Bool.not_eq_true]; omega) | grind [Ctl, Hang]
                · try dsimp only at hg30
                  (iterate 6 refine TL.passG rfl rfl rfl rfl ?_); refine TL.runG rfl rfl (pure_pick_false rfl rfl) rfl ?_; refine TL.run1 (pure_pick_false rfl rfl) rfl ?_; refine TL.run1 (pure_move rfl) rfl ?_; refine TL.split 39 rfl (fun hg39 => ?_) (fun hg39 => ?_)
                  · try dsimp only at hg39
                    (iterate 10 refine TL.passG rfl rfl rfl rfl ?_); refine TL.run1 (pure_pick_true rfl rfl) rfl ?_; refine TL.run1 (pure_assign rfl) rfl ?_; refine TL.cutEnd (by repeat (first | exact Same.refl _ _ | refine Same.put rfl ?_)) rfl ?_
                    first | (simp only [Ctl, Hang, decide_eq_true_eq, Bool.false_eq_true, false_iff, true_iff, iff_true, iff_false, Bool.not_eq_true]; omega) | grind [Ctl, Hang]
                  · try dsimp only at hg39
                    refine TL.runG rfl rfl (pure_move rfl) rfl ?_; refine TL.runG rfl rfl (pure_eql rfl rfl) rfl ?_; refine TL.runG rfl rfl (pure_move rfl) rfl ?_; refine TL.splitP 42 rfl (fun hg42 => ?_) (fun hg42 => ?_)
                    · try dsimp only at hg42
                      (iterate 2 refine TL.passG rfl rfl rfl rfl ?_); refine TL.runG rfl rfl (pure_pick_true rfl rfl) rfl ?_; (iterate 2 refine TL.runG rfl rfl (pure_move rfl) rfl ?_); refine TL.runG rfl rfl (pure_eql rfl rfl) rfl ?_; refine TL.runG rfl rfl (pure_pick_true rfl rfl) rfl ?_; refine TL.run1 (pure_pick_false rfl rfl) rfl ?_; refine TL.run1 (pure_assign rfl) rfl ?_; refine TL.cutEnd (by repeat (first | exact Same.refl _ _ | refine Same.put rfl ?_)) rfl ?_
                      first | (simp only [Ctl, Hang, decide_eq_true_eq, Bool.false_eq_true, false_iff, true_iff, iff_true, iff_false, Bool.not_eq_true]; omega) | grind [Ctl, Hang]
                    · try dsimp only at hg42
                      refine TL.runG rfl rfl (pure_move rfl) rfl ?_; refine TL.runG rfl rfl (pure_eql rfl rfl) rfl ?_; refine TL.runG rfl rfl (pure_pick_false rfl rfl) rfl ?_; refine TL.runG rfl rfl (pure_move rfl) rfl ?_; refine TL.splitP 46 rfl (fun hg46 => ?_) (fun hg46 => ?_)
                      · try dsimp only at hg46
                        refine TL.runG rfl rfl (pure_move rfl) rfl ?_; refine TL.runG rfl rfl (pure_eql rfl rfl) rfl ?_; refine TL.runG rfl rfl (pure_pick_true rfl rfl) rfl ?_; refine TL.run1 (pure_pick_false rfl rfl) rfl ?_; refine TL.run1 (pure_assign rfl) rfl ?_; refine TL.cutEnd (by repeat (first | exact Same.refl _ _ | refine Same.put rfl ?_)) rfl ?_
                        first | (simp only [Ctl, Hang, decide_eq_true_eq, Bool.false_eq_true, false_iff, true_iff, iff_true, iff_false, Bool.not_eq_true]; omega) | grind [Ctl, Hang]
                      · try dsimp only at hg46
                        (iterate 2 refine TL.passG rfl rfl rfl rfl ?_); refine TL.runG rfl rfl (pure_pick_false rfl rfl) rfl ?_; refine TL.run1 (pure_pick_false rfl rfl) rfl ?_; refine TL.run1 (pure_assign rfl) rfl ?_; refine TL.cutEnd (by repeat (first | exact Same.refl _ _ | refine Same.put rfl ?_)) rfl ?_
                        first | (simp only [Ctl, Hang, decide_eq_true_eq, Bool.false_eq_true, false_iff, true_iff, iff_true, iff_false, Bool.not_eq_true]; omega) | grind [Ctl, Hang]
          · try dsimp only at hg18
            refine TL.runG rfl rfl (pure_move rfl) rfl ?_; refine TL.runG rfl rfl (pure_eql rfl rfl) rfl ?_; refine TL.runG rfl rfl (pure_pick_false rfl rfl) rfl ?_; refine TL.run1 (pure_pick_true rfl rfl) rfl ?_; refine TL.run1 (pure_move rfl) rfl ?_; refine TL.splitP 23 rfl (fun hg23 => ?_) (fun hg23 => ?_)
            · try dsimp only at hg23
              (iterate 14 refine TL.passG rfl rfl rfl rfl ?_); refine TL.run1 (pure_pick_true rfl rfl) rfl ?_; refine TL.run1 (pure_move rfl) rfl ?_; (iterate 10 refine TL.passG rfl rfl rfl rfl ?_); refine TL.run1 (pure_pick_true rfl rfl) rfl ?_; refine TL.run1 (pure_assign rfl) rfl ?_; refine TL.cutEnd (by repeat (first | exact Same.refl _ _ | refine Same.put rfl ?_)) rfl ?_
              first | (simp only [Ctl, Hang, decide_eq_true_eq, Bool.false_eq_true, false_iff, true_iff, iff_true, iff_false, Bool.not_eq_true]; omega) | grind [Ctl, Hang]
            · try dsimp only at hg23
              refine TL.runG rfl rfl (pure_move rfl) rfl ?_; refine TL.runG rfl rfl (pure_eql rfl rfl) rfl ?_; refine TL.runG rfl rfl (pure_move rfl) rfl ?_; refine TL.splitP 26 rfl (fun hg26 => ?_) (fun hg26 => ?_)
              · try dsimp only at hg26
                (iterate 2 refine TL.passG rfl rfl rfl rfl ?_); refine TL.runG rfl rfl (pure_pick_true rfl rfl) rfl ?_; (iterate 2 refine TL.runG rfl rfl (pure_move rfl) rfl ?_); refine TL.runG rfl rfl (pure_eql rfl rfl) rfl ?_; refine TL.runG rfl rfl (pure_move rfl) rfl ?_; refine TL.splitP 33 rfl (fun hg33 => ?_) (fun hg33 => ?_)
                · try dsimp only at hg33
                  (iterate 2 refine TL.passG rfl rfl rfl rfl ?_); (iterate 2 refine TL.runG rfl rfl (pure_pick_true rfl rfl) rfl ?_); refine TL.run1 (pure_pick_false rfl rfl) rfl ?_; refine TL.run1 (pure_move rfl) rfl ?_; refine TL.split 39 rfl (fun hg39 => ?_) (fun hg39 => ?_)
                  · try dsimp only at hg39
                    (iterate 10 refine TL.passG rfl rfl rfl rfl ?_); refine TL.run1 (pure_pick_true rfl rfl) rfl ?_; refine TL.run1 (pure_assign rfl) rfl ?_; refine TL.cutEnd (by repeat (first | exact Same.refl _ _ | refine Same.put rfl ?_)) rfl ?_
                    first | (simp only [Ctl, Hang, decide_eq_true_eq, Bool.false_eq_true, false_iff, true_iff, iff_true, iff_false, Bool.not_eq_true]; omega) | grind [Ctl, Hang]
                  · try dsimp only at hg39
                    refine TL.runG rfl rfl (pure_move rfl) rfl ?_; refine TL.runG rfl rfl (pure_eql rfl rfl) rfl ?_; refine TL.runG rfl rfl (pure_move rfl) rfl ?_; refine TL.splitP 42 rfl (fun hg42 => ?_) (fun hg42 => ?_)
                    · try dsimp only at hg42
                      (iterate 2 refine TL.passG rfl rfl rfl rfl ?_); refine TL.runG rfl rfl (pure_pick_true rfl rfl) rfl ?_; (iterate 2 refine TL.runG rfl rfl (pure_move rfl) rfl ?_); refine TL.runG rfl rfl (pure_eql rfl rfl) rfl ?_; refine TL.runG rfl rfl (pure_pick_true rfl rfl) rfl ?_; refine TL.run1 (pure_pick_false rfl rfl) rfl ?_; refine TL.run1 (pure_assign rfl) rfl ?_; refine TL.cutEnd (by repeat (first | exact Same.refl _ _ | refine Same.put rfl ?_)) rfl ?_
                      first | (simp only [Ctl, Hang, decide_eq_true_eq, Bool.false_eq_true, false_iff, true_iff, iff_true, iff_false, Bool.not_eq_true]; omega) | grind [Ctl, Hang]
                    · try dsimp only at hg42
                      refine TL.runG rfl rfl (pure_move rfl) rfl ?_; refine TL.runG rfl rfl (pure_eql rfl rfl) rfl ?_; refine TL.runG rfl rfl (pure_pick_false rfl rfl) rfl ?_; refine TL.runG rfl rfl (pure_move rfl) rfl ?_; refine TL.splitP 46 rfl (fun hg46 => ?_) (fun hg46 => ?_)
                      · try dsimp only at hg46
                        refine TL.runG rfl rfl (pure_move rfl) rfl ?_; refine TL.runG rfl rfl (pure_eql rfl rfl) rfl ?_; refine TL.runG rfl rfl (pure_pick_true rfl rfl) rfl ?_; refine TL.run1 (pure_pick_false rfl rfl) rfl ?_; refine TL.run1 (pure_assign rfl) rfl ?_; refine TL.cutEnd (by repeat (first | exact Same.refl _ _ | refine Same.put rfl ?_)) rfl ?_
                        first | (simp only [Ctl, Hang, decide_eq_true_eq, Bool.false_eq_true, false_iff, true_iff, iff_true, iff_false, Bool.not_eq_true]; omega) | grind [Ctl, Hang]
                      · try dsimp only at hg46
                        (iterate 2 refine TL.passG rfl rfl rfl rfl ?_); refine TL.runG rfl rfl (pure_pick_false rfl rfl) rfl ?_; refine TL.run1 (pure_pick_false rfl rfl) rfl ?_; refine TL.run1 (pure_assign rfl) rfl ?_; refine TL.cutEnd (by repeat (first | exact Same.refl _ _ | refine Same.put rfl ?_)) rfl ?_
                        first | (simp only [Ctl, Hang, decide_eq_true_eq, Bool.false_eq_true, false_iff, true_iff, iff_true, iff_false, Bool.not_eq_true]; omega) | grind [Ctl, Hang]
                · try dsimp only at hg33
                  refine TL.runG rfl rfl (pure_move rfl) rfl ?_; refine TL.runG rfl rfl (pure_eql rfl rfl) rfl ?_; refine TL.runG rfl rfl (pure_pick_false rfl rfl) rfl ?_; refine TL.runG rfl rfl (pure_pick_true rfl rfl) rfl ?_; refine TL.run1 (pure_pick_false rfl rfl) rfl ?_; refine TL.run1 (pure_move rfl) rfl ?_; refine TL.splitP 39 rfl (fun hg39 => ?_) (fun hg39 => ?_)
                  · try dsimp only at hg39
                    (iterate 10 refine TL.passG rfl rfl rfl rfl ?_); refine TL.run1 (pure_pick_true rfl rfl) rfl ?_; refine TL.run1 (pure_assign rfl) rfl ?_; refine TL.cutEnd (by repeat (first | exact Same.refl _ _ | refine Same.put rfl ?_)) rfl ?_
                    first | (simp only [Ctl, Hang, decide_eq_true_eq, Bool.false_eq_true, false_iff, true_iff, iff_true, iff_false, Bool.not_eq_true]; omega) | grind [Ctl, Hang]
                  · try dsimp only at hg39
                    refine TL.runG rfl rfl (pure_move rfl) rfl ?_; refine TL.runG rfl rfl (pure_eql rfl rfl) rfl ?_; refine TL.runG rfl rfl (pure_move rfl) rfl ?_; refine TL.splitP 42 rfl (fun hg42 => ?_) (fun hg42 => ?_)
                    · try dsimp only at hg42
                      (iterate 2 refine TL.passG rfl rfl rfl rfl ?_); refine TL.runG rfl rfl (pure_pick_true rfl rfl) rfl ?_; (iterate 2 refine TL.runG rfl rfl (pure_move rfl) rfl ?_); refine TL.runG rfl rfl (pure_eql rfl rfl) rfl ?_; refine TL.runG rfl rfl (pure_pick_true rfl rfl) rfl ?_; refine TL.run1 (pure_pick_false rfl rfl) rfl ?_; refine TL.run1 (pure_assign rfl) rfl ?_; refine TL.cutEnd (by repeat (first | exact Same.refl _ _ | refine Same.put rfl ?_)) rfl ?_
                      first | (simp only [Ctl, Hang, decide_eq_true_eq, Bool.false_eq_true, false_iff, true_iff, iff_true, iff_false, Bool.not_eq_true]; omega) | grind [Ctl, Hang]
                    · try dsimp only at hg42
                      refine TL.runG rfl rfl (pure_move rfl) rfl ?_; refine TL.runG rfl rfl (pure_eql rfl rfl) rfl ?_; refine TL.runG rfl rfl (pure_pick_false rfl rfl) rfl ?_; refine TL.runG rfl rfl (pure_move rfl) rfl ?_; refine TL.splitP 46 rfl (fun hg46 => ?_) (fun hg46 => ?_)
                      · try dsimp only at hg46
                        refine TL.runG rfl rfl (pure_move rfl) rfl ?_; refine TL.runG rfl rfl (pure_eql rfl rfl) rfl ?_; refine TL.runG rfl rfl (pure_pick_true rfl rfl) rfl ?_; refine TL.run1 (pure_pick_false rfl rfl) rfl ?_; refine TL.run1 (pure_assign rfl) rfl ?_; refine TL.cutEnd (by repeat (first | exact Same.refl _ _ | refine Same.put rfl ?_)) rfl ?_
                        first | (simp only [Ctl, Hang, decide_eq_true_eq, Bool.false_eq_true, false_iff, true_iff, iff_true, iff_false, Bool.not_eq_true]; omega) | grind [Ctl, Hang]
                      · try dsimp only at hg46
                        (iterate 2 refine TL.passG rfl rfl rfl rfl ?_); refine TL.runG rfl rfl (pure_pick_false rfl rfl) rfl ?_; refine TL.run1 (pure_pick_false rfl rfl) rfl ?_; refine TL.run1 (pure_assign rfl) rfl ?_; refine TL.cutEnd (by repeat (first | exact Same.refl _ _ | refine Same.put rfl ?_)) rfl ?_
                        first | (simp only [Ctl, Hang, decide_eq_true_eq, Bool.false_eq_true, false_iff, true_iff, iff_true, iff_false, Bool.not_eq_true]; omega) | grind [Ctl, Hang]
              · try dsimp only at hg26
                refine TL.runG rfl rfl (pure_move rfl) rfl ?_; refine TL.runG rfl rfl (pure_eql rfl rfl) rfl ?_; refine TL.runG rfl rfl (pure_pick_false rfl rfl) rfl ?_; refine TL.runG rfl rfl (pure_move rfl) rfl ?_; refine TL.splitP 30 rfl (fun hg30 => ?_) (fun hg30 => ?_)
                · try dsimp only at hg30
                  refine TL.runG rfl rfl (pure_move rfl) rfl ?_; refine TL.runG rfl rfl (pure_eql rfl rfl) rfl ?_; refine TL.runG rfl rfl (pure_move rfl) rfl ?_; refine TL.splitP 33 rfl (fun hg33 => ?_) (fun hg33 => ?_)
                  · try dsimp only at hg33
                    (iterate 2 refine TL.passG rfl rfl rfl rfl ?_); (iterate 2 refine TL.runG rfl rfl (pure_pick_true rfl rfl) rfl ?_); refine TL.run1 (pure_pick_false rfl rfl) rfl ?_; refine TL.run1 (pure_move rfl) rfl ?_; refine TL.split 39 rfl (fun hg39 => ?_) (fun hg39 => ?_)
                    · try dsimp only at hg39
                      (iterate 10 refine TL.passG rfl rfl rfl rfl ?_); refine TL.run1 (pure_pick_true rfl rfl) rfl ?_; refine TL.run1 (pure_assign rfl) rfl ?_; refine TL.cutEnd (by repeat (first | exact Same.refl _ _ | refine Same.put rfl ?_)) rfl ?_
                      first | (simp only [Ctl, Hang, decide_eq_true_eq, Bool.false_eq_true, false_iff, true_iff, iff_true, iff_false, Bool.not_eq_true]; omega) | grind [Ctl, Hang]
                    · try dsimp only at hg39
                      refine TL.runG rfl rfl (pure_move rfl) rfl ?_; refine TL.runG rfl rfl (pure_eql rfl rfl) rfl ?_; refine TL.runG rfl rfl (pure_move rfl) rfl ?_; refine TL.splitP 42 rfl (fun hg42 => ?_) (fun hg42 => ?_)
                      · try dsimp only at hg42
                        (iterate 2 refine TL.passG rfl rfl rfl rfl ?_); refine TL.runG rfl rfl (pure_pick_true rfl rfl) rfl ?_; (iterate 2 refine TL.runG rfl rfl (pure_move rfl) rfl ?_); refine TL.runG rfl rfl (pure_eql rfl rfl) rfl ?_; refine TL.runG rfl rfl (pure_pick_true rfl rfl) rfl ?_; refine TL.run1 (pure_pick_false rfl rfl) rfl ?_; refine TL.run1 (pure_assign rfl) rfl ?_; refine TL.cutEnd (by repeat (first | exact Same.refl _ _ | refine Same.put rfl ?_)) rfl ?_
                        first | (simp only [Ctl, Hang, decide_eq_true_eq, Bool.false_eq_true, false_iff, true_iff, iff_true, iff_false, Bool.not_eq_true]; omega) | grind [Ctl, Hang]
                      · try dsimp only at hg42
                        refine TL.runG rfl rfl (pure_move rfl) rfl ?_; refine TL.runG rfl rfl (pure_eql rfl rfl) rfl ?_; refine TL.runG rfl rfl (pure_pick_false rfl rfl) rfl ?_; refine TL.runG rfl rfl (pure_move rfl) rfl ?_; refine TL.splitP 46 rfl (fun hg46 => ?_) (fun hg46 => ?_)
                        · try dsimp only at hg46
                          refine TL.runG rfl rfl (pure_move rfl) rfl ?_; refine TL.runG rfl rfl (pure_eql rfl rfl) rfl ?_; refine TL.runG rfl rfl (pure_pick_true rfl rfl) rfl ?_; refine TL.run1 (pure_pick_false rfl rfl) rfl ?_; refine TL.run1 (pure_assign rfl) rfl ?_; refine TL.cutEnd (by repeat (first | exact Same.refl _ _ | refine Same.put rfl ?_)) rfl ?_
                          first | (simp only [Ctl, Hang, decide_eq_true_eq, Bool.false_eq_true, false_iff, true_iff, iff_true, iff_false, Bool.not_eq_true]; omega) | grind [Ctl, Hang]
                        · try dsimp only at hg46
                          (iterate 2 refine TL.passG rfl rfl rfl rfl ?_); refine TL.runG rfl rfl (pure_pick_false rfl rfl) rfl ?_; refine TL.run1 (pure_pick_false rfl rfl) rfl ?_; refine TL.run1 (pure_assign rfl) rfl ?_; refine TL.cutEnd (by repeat (first | exact Same.refl _ _ | refine Same.put rfl ?_)) rfl ?_
                          first | (simp only [Ctl, Hang, decide_eq_true_eq, Bool.false_eq_true, false_iff, true_iff, iff_true, iff_false, Bool.not_eq_true]; omega) | grind [Ctl, Hang]
                  · try dsimp only at hg33
                    refine TL.runG rfl rfl (pure_move rfl) rfl ?_; refine TL.runG rfl rfl (pure_eql rfl rfl) rfl ?_; refine TL.runG rfl rfl (pure_pick_false rfl rfl) rfl ?_; refine TL.runG rfl rfl (pure_pick_true rfl rfl) rfl ?_; refine TL.run1 (pure_pick_false rfl rfl) rfl ?_; refine TL.run1 (pure_move rfl) rfl ?_; refine TL.splitP 39 rfl (fun hg39 => ?_) (fun hg39 => ?_)
                    · try dsimp only at hg39
                      (iterate 10 refine TL.passG rfl rfl rfl rfl ?_); refine TL.run1 (pure_pick_true rfl rfl) rfl ?_; refine TL.run1 (pure_assign rfl) rfl ?_; refine TL.cutEnd (by repeat (first | exact Same.refl _ _ | refine Same.put rfl ?_)) rfl ?_
                      first | (simp only [Ctl, Hang, decide_eq_true_eq, Bool.false_eq_true, false_iff, true_iff, iff_true, iff_false, Bool.not_eq_true]; omega) | grind [Ctl, Hang]
                    · try dsimp only at hg39
                      refine TL.runG rfl rfl (pure_move rfl) rfl ?_; refine TL.runG rfl rfl (pure_eql rfl rfl) rfl ?_; refine TL.runG rfl rfl (pure_move rfl) rfl ?_; refine TL.splitP 42 rfl (fun hg42 => ?_) (fun hg42 => ?_)
                      · try dsimp only at hg42
                        (iterate 2 refine TL.passG rfl rfl rfl rfl ?_); refine TL.runG rfl rfl (pure_pick_true rfl rfl) rfl ?_; (iterate 2 refine TL.runG rfl rfl (pure_move rfl) rfl ?_); refine TL.runG rfl rfl (pure_eql rfl rfl) rfl ?_; refine TL.runG rfl rfl (pure_pick_true rfl rfl) rfl ?_; refine TL.run1 (pure_pick_false rfl rfl) rfl ?_; refine TL.run1 (pure_assign rfl) rfl ?_; refine TL.cutEnd (by repeat (first | exact Same.refl _ _ | refine Same.put rfl ?_)) rfl ?_
                        first | (simp only [Ctl, Hang, decide_eq_true_eq, Bool.false_eq_true, false_iff, true_iff, iff_true, iff_false, Bool.not_eq_true]; omega) | grind [Ctl, Hang]
                      · try dsimp only at hg42
                        refine TL.runG rfl rfl (pure_move rfl) rfl ?_; refine TL.runG rfl rfl (pure_eql rfl rfl) rfl ?_; refine TL.runG rfl rfl (pure_pick_false rfl rfl) rfl ?_; refine TL.runG rfl rfl (pure_move rfl) rfl ?_; refine TL.splitP 46 rfl (fun hg46 => ?_) (fun hg46 => ?_)
                        · try dsimp only at hg46
                          refine TL.runG rfl rfl (pure_move rfl) rfl ?_; refine TL.runG rfl rfl (pure_eql rfl rfl) rfl ?_; refine TL.runG rfl rfl (pure_pick_true rfl rfl) rfl ?_; refine TL.run1 (pure_pick_false rfl rfl) rfl ?_; refine TL.run1 (pure_assign rfl) rfl ?_; refine TL.cutEnd (by repeat (first | exact Same.refl _ _ | refine Same.put rfl ?_)) rfl ?_
                          first | (simp only [Ctl, Hang, decide_eq_true_eq, Bool.false_eq_true, false_iff, true_iff, iff_true, iff_false, Bool.not_eq_true]; omega) | grind [Ctl, Hang]
                        · try dsimp only at hg46
                          (iterate 2 refine TL.passG rfl rfl rfl rfl ?_); refine TL.runG rfl rfl (pure_pick_false rfl rfl) rfl ?_; refine TL.run1 (pure_pick_false rfl rfl) rfl ?_; refine TL.run1 (pure_assign rfl) rfl ?_; refine TL.cutEnd (by repeat (first | exact Same.refl _ _ | refine Same.put rfl ?_)) rfl ?_
                          first | (simp only [Ctl, Hang, decide_eq_true_eq, Bool.false_eq_true, false_iff, true_iff, iff_true, iff_false, Bool.not_eq_true]; omega) | grind [Ctl, Hang]
                · try dsimp only at hg30
                  (iterate 6 refine TL.passG rfl rfl rfl rfl ?_); refine TL.runG rfl rfl (pure_pick_false rfl rfl) rfl ?_; refine TL.run1 (pure_pick_false rfl rfl) rfl ?_; refine TL.run1 (pure_move rfl) rfl ?_; refine TL.split 39 rfl (fun hg39 => ?_) (fun hg39 => ?_)
                  · try dsimp only at hg39
                    (iterate 10 refine TL.passG rfl rfl rfl rfl ?_); refine TL.run1 (pure_pick_true rfl rfl) rfl ?_; refine TL.run1 (pure_assign rfl) rfl ?_; refine TL.cutEnd (by repeat (first | exact Same.refl _ _ | refine Same.put rfl ?_)) rfl ?_
                    first | (simp only [Ctl, Hang, decide_eq_true_eq, Bool.false_eq_true, false_iff, true_iff, iff_true, iff_false, Bool.not_eq_true]; omega) | grind [Ctl, Hang]
                  · try dsimp only at hg39
                    refine TL.runG rfl rfl (pure_move rfl) rfl ?_; refine TL.runG rfl rfl (pure_eql rfl rfl) rfl ?_; refine TL.runG rfl rfl (pure_move rfl) rfl ?_; refine TL.splitP 42 rfl (fun hg42 => ?_) (fun hg42 => ?_)
                    · try dsimp only at hg42
                      (iterate 2 refine TL.passG rfl rfl rfl rfl ?_); refine TL.runG rfl rfl (pure_pick_true rfl rfl) rfl ?_; (iterate 2 refine TL.runG rfl rfl (pure_move rfl) rfl ?_); refine TL.runG rfl rfl (pure_eql rfl rfl) rfl ?_; refine TL.runG rfl rfl (pure_pick_true rfl rfl) rfl ?_; refine TL.run1 (pure_pick_false rfl rfl) rfl ?_; refine TL.run1 (pure_assign rfl) rfl ?_; refine TL.cutEnd (by repeat (first | exact Same.refl _ _ | refine Same.put rfl ?_)) rfl ?_
                      first | (simp only [Ctl, Hang, decide_eq_true_eq, Bool.false_eq_true, false_iff, true_iff, iff_true, iff_false, Bool.not_eq_true]; omega) | grind [Ctl, Hang]
                    · try dsimp only at hg42
                      refine TL.runG rfl rfl (pure_move rfl) rfl ?_; refine TL.runG rfl rfl (pure_eql rfl rfl) rfl ?_; refine TL.runG rfl rfl (pure_pick_false rfl rfl) rfl ?_; refine TL.runG rfl rfl (pure_move rfl) rfl ?_; refine TL.splitP 46 rfl (fun hg46 => ?_) (fun hg46 => ?_)
                      · try dsimp only at hg46
                        refine TL.runG rfl rfl (pure_move rfl) rfl ?_; refine TL.runG rfl rfl (pure_eql rfl rfl) rfl ?_; refine TL.runG rfl rfl (pure_pick_true rfl rfl) rfl ?_; refine TL.run1 (pure_pick_false rfl rfl) rfl ?_; refine TL.run1 (pure_assign rfl) rfl ?_; refine TL.cutEnd (by repeat (first | exact Same.refl _ _ | refine Same.put rfl ?_)) rfl ?_
                        first | (simp only [Ctl, Hang, decide_eq_true_eq, Bool.false_eq_true, false_iff, true_iff, iff_true, iff_false, Bool.not_eq_true]; omega) | grind [Ctl, Hang]
                      · try dsimp only at hg46
                        (iterate 2 refine TL.passG rfl rfl rfl rfl ?_); refine TL.runG rfl rfl (pure_pick_false rfl rfl) rfl ?_; refine TL.run1 (pure_pick_false rfl rfl) rfl ?_; refine TL.run1 (pure_assign rfl) rfl ?_; refine TL.cutEnd (by repeat (first | exact Same.refl _ _ | refine Same.put rfl ?_)) rfl ?_
                        first | (simp only [Ctl, Hang, decide_eq_true_eq, Bool.false_eq_true, false_iff, true_iff, iff_true, iff_false, Bool.not_eq_true]; omega) | grind [Ctl, Hang]
    · try dsimp only at hg7
      (iterate 14 refine TL.passG rfl rfl rfl rfl ?_); refine TL.run1 (pure_pick_false rfl rfl) rfl ?_; refine TL.run1 (pure_move rfl) rfl ?_; refine TL.runG rfl rfl (pure_move rfl) rfl ?_; refine TL.runG rfl rfl (pure_eql rfl rfl) rfl ?_; refine TL.runG rfl rfl (pure_move rfl) rfl ?_; refine TL.splitP 26 rfl (fun hg26 => ?_) (fun hg26 => ?_)
      · try dsimp only at hg26
        (iterate 2 refine TL.passG rfl rfl rfl rfl ?_); refine TL.runG rfl rfl (pure_pick_true rfl rfl) rfl ?_; (iterate 2 refine TL.runG rfl rfl (pure_move rfl) rfl ?_); refine TL.runG rfl rfl (pure_eql rfl rfl) rfl ?_; refine TL.runG rfl rfl (pure_move rfl) rfl ?_; refine TL.splitP 33 rfl (fun hg33 => ?_) (fun hg33 => ?_)
        · try dsimp only at hg33
          (iterate 2 refine TL.passG rfl rfl rfl rfl ?_); (iterate 2 refine TL.runG rfl rfl (pure_pick_true rfl rfl) rfl ?_); refine TL.run1 (pure_pick_false rfl rfl) rfl ?_; refine TL.run1 (pure_move rfl) rfl ?_; refine TL.split 39 rfl (fun hg39 => ?_) (fun hg39 => ?_)
          · try dsimp only at hg39
            (iterate 10 refine TL.passG rfl rfl rfl rfl ?_); refine TL.run1 (pure_pick_true rfl rfl) rfl ?_; refine TL.run1 (pure_assign rfl) rfl ?_; refine TL.cutEnd (by repeat (first | exact Same.refl _ _ | refine Same.put rfl ?_)) rfl ?_
            first | (simp only [Ctl, Hang, decide_eq_true_eq, Bool.false_eq_true, false_iff, true_iff, iff_true, iff_false, Bool.not_eq_true]; omega) | grind [Ctl, Hang]
          · try dsimp only at hg39
            refine TL.runG rfl rfl (pure_move rfl) rfl ?_; refine TL.runG rfl rfl (pure_eql rfl rfl) rfl ?_; refine TL.runG rfl rfl (pure_move rfl) rfl ?_; refine TL.splitP 42 rfl (fun hg42 => ?_) (fun hg42 => ?_)
            · try dsimp only at hg42
              (iterate 2 refine TL.passG rfl rfl rfl rfl ?_); refine TL.runG rfl rfl (pure_pick_true rfl rfl) rfl ?_; (iterate 2 refine TL.runG rfl rfl (pure_move rfl) rfl ?_); refine TL.runG rfl rfl (pure_eql rfl rfl) rfl ?_; refine TL.runG rfl rfl (pure_pick_true rfl rfl) rfl ?_; refine TL.run1 (pure_pick_false rfl rfl) rfl ?_; refine TL.run1 (pure_assign rfl) rfl ?_; refine TL.cutEnd (by repeat (first | exact Same.refl _ _ | refine Same.put rfl ?_)) rfl ?_
              first | (simp only [Ctl, Hang, decide_eq_true_eq, Bool.false_eq_true, false_iff, true_iff, iff_true, iff_false, Bool.not_eq_true]; omega) | grind [Ctl, Hang]
            · try dsimp only at hg42
              refine TL.runG rfl rfl (pure_move rfl) rfl ?_; refine TL.runG rfl rfl (pure_eql rfl rfl) rfl ?_; refine TL.runG rfl rfl (pure_pick_false rfl rfl) rfl ?_; refine TL.runG rfl rfl (pure_move rfl) rfl ?_; refine TL.splitP 46 rfl (fun hg46 => ?_) (fun hg46 => ?_)
              · try dsimp only at hg46
                refine TL.runG rfl rfl (pure_move rfl) rfl ?_; refine TL.runG rfl rfl (pure_eql rfl rfl) rfl ?_; refine TL.runG rfl rfl (pure_pick_true rfl rfl) rfl ?_; refine TL.run1 (pure_pick_false rfl rfl) rfl ?_; refine TL.run1 (pure_assign rfl) rfl ?_; refine TL.cutEnd (by repeat (first | exact Same.refl _ _ | refine Same.put rfl ?_)) rfl ?_
                first | (simp only [Ctl, Hang, decide_eq_true_eq, Bool.false_eq_true, false_iff, true_iff, iff_true, iff_false, Bool.not_eq_true]; omega) | grind [Ctl, Hang]
              · try dsimp only at hg46
                (iterate 2 refine TL.passG rfl rfl rfl rfl ?_); refine TL.runG rfl rfl (pure_pick_false rfl rfl) rfl ?_; refine TL.run1 (pure_pick_false rfl rfl) rfl ?_; refine TL.run1 (pure_assign rfl) rfl ?_; refine TL.cutEnd (by repeat (first | exact Same.refl _ _ | refine Same.put rfl ?_)) rfl ?_
                first | (simp only [Ctl, Hang, decide_eq_true_eq, Bool.false_eq_true, false_iff, true_iff, iff_true, iff_false, Bool.not_eq_true]; omega) | grind [Ctl, Hang]
        · try dsimp only at hg33
          refine TL.runG rfl rfl (pure_move rfl) rfl ?_; refine TL.runG rfl rfl (pure_eql rfl rfl) rfl ?_; refine TL.runG rfl rfl (pure_pick_false rfl rfl) rfl ?_; refine TL.runG rfl rfl (pure_pick_true rfl rfl) rfl ?_; refine TL.run1 (pure_pick_false rfl rfl) rfl ?_; refine TL.run1 (pure_move rfl) rfl ?_; refine TL.splitP 39 rfl (fun hg39 => ?_) (fun hg39 => ?_)
          · try dsimp only at hg39
            (iterate 10 refine TL.passG rfl rfl rfl rfl ?_); refine TL.run1 (pure_pick_true rfl rfl) rfl ?_; refine TL.run1 (pure_assign rfl) rfl ?_; refine TL.cutEnd (by repeat (first | exact Same.refl _ _ | refine Same.put rfl ?_)) rfl ?_
            first | (simp only [Ctl, Hang, decide_eq_true_eq, Bool.false_eq_true, false_iff, true_iff, iff_true, iff_false, Bool.not_eq_true]; omega) | grind [Ctl, Hang]
          · try dsimp only at hg39
            refine TL.runG rfl rfl (pure_move rfl) rfl ?_; refine TL.runG rfl rfl (pure_eql rfl rfl) rfl ?_; refine TL.runG rfl rfl (pure_move rfl) rfl ?_; refine TL.splitP 42 rfl (fun hg42 => ?_) (fun hg42 => ?_)
            · try dsimp only at hg42
              (iterate 2 refine TL.passG rfl rfl rfl rfl ?_); refine TL.runG rfl rfl (pure_pick_true rfl rfl) rfl ?_; (iterate 2 refine TL.runG rfl rfl (pure_move rfl) rfl ?_); refine TL.runG rfl rfl (pure_eql rfl rfl) rfl ?_; refine TL.runG rfl rfl (pure_pick_true rfl rfl) rfl ?_; refine TL.run1 (pure_pick_false rfl rfl) rfl ?_; refine TL.run1 (pure_assign rfl) rfl ?_; refine TL.cutEnd (by repeat (first | exact Same.refl _ _ | refine Same.put rfl ?_)) rfl ?_
              first | (simp only [Ctl, Hang, decide_eq_true_eq, Bool.false_eq_true, false_iff, true_iff, iff_true, iff_false, Bool.not_eq_true]; omega) | grind [Ctl, Hang]
            · try dsimp only at hg42
              refine TL.runG rfl rfl (pure_move rfl) rfl ?_; refine TL.runG rfl rfl (pure_eql rfl rfl) rfl ?_; refine TL.runG rfl rfl (pure_pick_false rfl rfl) rfl ?_; refine TL.runG rfl rfl (pure_move rfl) rfl ?_; refine TL.splitP 46 rfl (fun hg46 => ?_) (fun hg46 => ?_)
              · try dsimp only at hg46
                refine TL.runG rfl rfl (pure_move rfl) rfl ?_; refine TL.runG rfl rfl (pure_eql rfl rfl) rfl ?_; refine TL.runG rfl rfl (pure_pick_true rfl rfl) rfl ?_; refine TL.run1 (pure_pick_false rfl rfl) rfl ?_; refine TL.run1 (pure_assign rfl) rfl ?_; refine TL.cutEnd (by repeat (first | exact Same.refl _ _ | refine Same.put rfl ?_)) rfl ?_
                first | (simp only [Ctl, Hang, decide_eq_true_eq, Bool.false_eq_true, false_iff, true_iff, iff_true, iff_false, Bool.not_eq_true]; omega) | grind [Ctl, Hang]
              · try dsimp only at hg46
                (iterate 2 refine TL.passG rfl rfl rfl rfl ?_); refine TL.runG rfl rfl (pure_pick_false rfl rfl) rfl ?_; refine TL.run1 (pure_pick_false rfl rfl) rfl ?_; refine TL.run1 (pure_assign rfl) rfl ?_; refine TL.cutEnd (by repeat (first | exact Same.refl _ _ | refine Same.put rfl ?_)) rfl ?_
                first | (simp only [Ctl, Hang, decide_eq_true_eq, Bool.false_eq_true, false_iff, true_iff, iff_true, iff_false, Bool.not_eq_true]; omega) | grind [Ctl, Hang]
      · try dsimp only at hg26
        refine TL.runG rfl rfl (pure_move rfl) rfl ?_; refine TL.runG rfl rfl (pure_eql rfl rfl) rfl ?_; refine TL.runG rfl rfl (pure_pick_false rfl rfl) rfl ?_; refine TL.runG rfl rfl (pure_move rfl) rfl ?_; refine TL.splitP 30 rfl (fun hg30 => ?_) (fun hg30 => ?_)
        · try dsimp only at hg30
          refine TL.runG rfl rfl (pure_move rfl) rfl ?_; refine TL.runG rfl rfl (pure_eql rfl rfl) rfl ?_; refine TL.runG rfl rfl (pure_move rfl) rfl ?_; refine TL.splitP 33 rfl (fun hg33 => ?_) (fun hg33 => ?_)
          · try dsimp only at hg33
            (iterate 2 refine TL.passG rfl rfl rfl rfl ?_); (iterate 2 refine TL.runG rfl rfl (pure_pick_true rfl rfl) rfl ?_); refine TL.run1 (pure_pick_false rfl rfl) rfl ?_; refine TL.run1 (pure_move rfl) rfl ?_; refine TL.split 39 rfl (fun hg39 => ?_) (fun hg39 => ?_)
            · try dsimp only at hg39
              (iterate 10 refine TL.passG rfl rfl rfl rfl ?_); refine TL.run1 (pure_pick_true rfl rfl) rfl ?_; refine TL.run1 (pure_assign rfl) rfl ?_; refine TL.cutEnd (by repeat (first | exact Same.refl _ _ | refine Same.put rfl ?_)) rfl ?_
              first | (simp only [Ctl, Hang, decide_eq_true_eq, Bool.false_eq_true, false_iff, true_iff, iff_true, iff_false, Bool.not_eq_true]; omega) | grind [Ctl, Hang]
            · try dsimp only at hg39
              refine TL.runG rfl rfl (pure_move rfl) rfl ?_; refine TL.runG rfl rfl (pure_eql rfl rfl) rfl ?_; refine TL.runG rfl rfl (pure_move rfl) rfl ?_; refine TL.splitP 42 rfl (fun hg42 => ?_) (fun hg42 => ?_)
              · try dsimp only at hg42
                (iterate 2 refine TL.passG rfl rfl rfl rfl ?_); refine TL.runG rfl rfl (pure_pick_true rfl rfl) rfl ?_; (iterate 2 refine TL.runG rfl rfl (pure_move rfl) rfl ?_); refine TL.runG rfl rfl (pure_eql rfl rfl) rfl ?_; refine TL.runG rfl rfl (pure_pick_true rfl rfl) rfl ?_; refine TL.run1 (pure_pick_false rfl rfl) rfl ?_; refine TL.run1 (pure_assign rfl) rfl ?_; refine TL.cutEnd (by repeat (first | exact Same.refl _ _ | refine Same.put rfl ?_)) rfl ?_
                first | (simp only [Ctl, Hang, decide_eq_true_eq, Bool.false_eq_true, false_iff, true_iff, iff_true, iff_false, Bool.not_eq_true]; omega) | grind [Ctl, Hang]
              · try dsimp only at hg42
                refine TL.runG rfl rfl (pure_move rfl) rfl ?_; refine TL.runG rfl rfl (pure_eql rfl rfl) rfl ?_; refine TL.runG rfl rfl (pure_pick_false rfl rfl) rfl ?_; refine TL.runG rfl rfl (pure_move rfl) rfl ?_; refine TL.splitP 46 rfl (fun hg46 => ?_) (fun hg46 => ?_)
                · try dsimp only at hg46
                  refine TL.runG rfl rfl (pure_move rfl) rfl ?_; refine TL.runG rfl rfl (pure_eql rfl rfl) rfl ?_; refine TL.runG rfl rfl (pure_pick_true rfl rfl) rfl ?_; refine TL.run1 (pure_pick_false rfl rfl) rfl ?_; refine TL.run1 (pure_assign rfl) rfl ?_; refine TL.cutEnd (by repeat (first | exact Same.refl _ _ | refine Same.put rfl ?_)) rfl ?_
                  first | (simp only [Ctl, Hang, decide_eq_true_eq, Bool.false_eq_true, false_iff, true_iff, iff_true, iff_false, Bool.not_eq_true]; omega) | grind [Ctl, Hang]
                · try dsimp only at hg46
                  (iterate 2 refine TL.passG rfl rfl rfl rfl ?_); refine TL.runG rfl rfl (pure_pick_false rfl rfl) rfl ?_; refine TL.run1 (pure_pick_false rfl rfl) rfl ?_; refine TL.run1 (pure_assign rfl) rfl ?_; refine TL.cutEnd (by repeat (first | exact Same.refl _ _ | refine Same.put rfl ?_)) rfl ?_
                  first | (simp only [Ctl, Hang, decide_eq_true_eq, Bool.false_eq_true, false_iff, true_iff, iff_true, iff_false, Bool.not_eq_true]; omega) | grind [Ctl, Hang]
          · try dsimp only at hg33
            refine TL.runG rfl rfl (pure_move rfl) rfl ?_; refine TL.runG rfl rfl (pure_eql rfl rfl) rfl ?_; refine TL.runG rfl rfl (pure_pick_false rfl rfl) rfl ?_; refine TL.runG rfl rfl (pure_pick_true rfl rfl) rfl ?_; refine TL.run1 (pure_pick_false rfl rfl) rfl ?_; refine TL.run1 (pure_move rfl) rfl ?_; refine TL.splitP 39 rfl (fun hg39 => ?_) (fun hg39 => ?_)
            · try dsimp only at hg39
              (iterate 10 refine TL.passG rfl rfl rfl rfl ?_); refine TL.run1 (pure_pick_true rfl rfl) rfl ?_; refine TL.run1 (pure_assign rfl) rfl ?_; refine TL.cutEnd (by repeat (first | exact Same.refl _ _ | refine Same.put rfl ?_)) rfl ?_
              first | (simp only [Ctl, Hang, decide_eq_true_eq, Bool.false_eq_true, false_iff, true_iff, iff_true, iff_false, Bool.not_eq_true]; omega) | grind [Ctl, Hang]
            · try dsimp only at hg39
              refine TL.runG rfl rfl (pure_move rfl) rfl ?_; refine TL.runG rfl rfl (pure_eql rfl rfl) rfl ?_; refine TL.runG rfl rfl (pure_move rfl) rfl ?_; refine TL.splitP 42 rfl (fun hg42 => ?_) (fun hg42 => ?_)
              · try dsimp only at hg42
                (iterate 2 refine TL.passG rfl rfl rfl rfl ?_); refine TL.runG rfl rfl (pure_pick_true rfl rfl) rfl ?_; (iterate 2 refine TL.runG rfl rfl (pure_move rfl) rfl ?_); refine TL.runG rfl rfl (pure_eql rfl rfl) rfl ?_; refine TL.runG rfl rfl (pure_pick_true rfl rfl) rfl ?_; refine TL.run1 (pure_pick_false rfl rfl) rfl ?_; refine TL.run1 (pure_assign rfl) rfl ?_; refine TL.cutEnd (by repeat (first | exact Same.refl _ _ | refine Same.put rfl ?_)) rfl ?_
                first | (simp only [Ctl, Hang, decide_eq_true_eq, Bool.false_eq_true, false_iff, true_iff, iff_true, iff_false, Bool.not_eq_true]; omega) | grind [Ctl, Hang]
              · try dsimp only at hg42
                refine TL.runG rfl rfl (pure_move rfl) rfl ?_; refine TL.runG rfl rfl (pure_eql rfl rfl) rfl ?_; refine TL.runG rfl rfl (pure_pick_false rfl rfl) rfl ?_; refine TL.runG rfl rfl (pure_move rfl) rfl ?_; refine TL.splitP 46 rfl (fun hg46 => ?_) (fun hg46 => ?_)
                · try dsimp only at hg46
                  refine TL.runG rfl rfl (pure_move rfl) rfl ?_; refine TL.runG rfl rfl (pure_eql rfl rfl) rfl ?_; refine TL.runG rfl rfl (pure_pick_true rfl rfl) rfl ?_; refine TL.run1 (pure_pick_false rfl rfl) rfl ?_; refine TL.run1 (pure_assign rfl) rfl ?_; refine TL.cutEnd (by repeat (first | exact Same.refl _ _ | refine Same.put rfl ?_)) rfl ?_
                  first | (simp only [Ctl, Hang, decide_eq_true_eq, Bool.false_eq_true, false_iff, true_iff, iff_true, iff_false, Bool.not_eq_true]; omega) | grind [Ctl, Hang]
                · try dsimp only at hg46
                  (iterate 2 refine TL.passG rfl rfl rfl rfl ?_); refine TL.runG rfl rfl (pure_pick_false rfl rfl) rfl ?_; refine TL.run1 (pure_pick_false rfl rfl) rfl ?_; refine TL.run1 (pure_assign rfl) rfl ?_; refine TL.cutEnd (by repeat (first | exact Same.refl _ _ | refine Same.put rfl ?_)) rfl ?_
                  first | (simp only [Ctl, Hang, decide_eq_true_eq, Bool.false_eq_true, false_iff, true_iff, iff_true, iff_false, Bool.not_eq_true]; omega) | grind [Ctl, Hang]
        · try dsimp only at hg30
          (iterate 6 refine TL.passG rfl rfl rfl rfl ?_); refine TL.runG rfl rfl (pure_pick_false rfl rfl) rfl ?_; refine TL.run1 (pure_pick_false rfl rfl) rfl ?_; refine TL.run1 (pure_move rfl) rfl ?_; refine TL.split 39 rfl (fun hg39 => ?_) (fun hg39 => ?_)
          · try dsimp only at hg39
            (iterate 10 refine TL.passG rfl rfl rfl rfl ?_); refine TL.run1 (pure_pick_true rfl rfl) rfl ?_; refine TL.run1 (pure_assign rfl) rfl ?_; refine TL.cutEnd (by repeat (first | exact Same.refl _ _ | refine Same.put rfl ?_)) rfl ?_
            first | (simp only [Ctl, Hang, decide_eq_true_eq, Bool.false_eq_true, false_iff, true_iff, iff_true, iff_false, Bool.not_eq_true]; omega) | grind [Ctl, Hang]
          · try dsimp only at hg39
            refine TL.runG rfl rfl (pure_move rfl) rfl ?_; refine TL.runG rfl rfl (pure_eql rfl rfl) rfl ?_; refine TL.runG rfl rfl (pure_move rfl) rfl ?_; refine TL.splitP 42 rfl (fun hg42 => ?_) (fun hg42 => ?_)
            · try dsimp only at hg42
              (iterate 2 refine TL.passG rfl rfl rfl rfl ?_); refine TL.runG rfl rfl (pure_pick_true rfl rfl) rfl ?_; (iterate 2 refine TL.runG rfl rfl (pure_move rfl) rfl ?_); refine TL.runG rfl rfl (pure_eql rfl rfl) rfl ?_; refine TL.runG rfl rfl (pure_pick_true rfl rfl) rfl ?_; refine TL.run1 (pure_pick_false rfl rfl) rfl ?_; refine TL.run1 (pure_assign rfl) rfl ?_; refine TL.cutEnd (by repeat (first | exact Same.refl _ _ | refine Same.put rfl ?_)) rfl ?_
              first | (simp only [Ctl, Hang, decide_eq_true_eq, Bool.false_eq_true, false_iff, true_iff, iff_true, iff_false, Bool.not_eq_true]; omega) | grind [Ctl, Hang]
            · try dsimp only at hg42
              refine TL.runG rfl rfl (pure_move rfl) rfl ?_; refine TL.runG rfl rfl (pure_eql rfl rfl) rfl ?_; refine TL.runG rfl rfl (pure_pick_false rfl rfl) rfl ?_; refine TL.runG rfl rfl (pure_move rfl) rfl ?_; refine TL.splitP 46 rfl (fun hg46 => ?_) (fun hg46 => ?_)
              · try dsimp only at hg46
                refine TL.runG rfl rfl (pure_move rfl) rfl ?_; refine TL.runG rfl rfl (pure_eql rfl rfl) rfl ?_; refine TL.runG rfl rfl (pure_pick_true rfl rfl) rfl ?_; refine TL.run1 (pure_pick_false rfl rfl) rfl ?_; refine TL.run1 (pure_assign rfl) rfl ?_; refine TL.cutEnd (by repeat (first | exact Same.refl _ _ | refine Same.put rfl ?_)) rfl ?_
                first | (simp only [Ctl, Hang, decide_eq_true_eq, Bool.false_eq_true, false_iff, true_iff, iff_true, iff_false, Bool.not_eq_true]; omega) | grind [Ctl, Hang]
              · try dsimp only at hg46
                (iterate 2 refine TL.passG rfl rfl rfl rfl ?_); refine TL.runG rfl rfl (pure_pick_false rfl rfl) rfl ?_; refine TL.run1 (pure_pick_false rfl rfl) rfl ?_; refine TL.run1 (pure_assign rfl) rfl ?_; refine TL.cutEnd (by repeat (first | exact Same.refl _ _ | refine Same.put rfl ?_)) rfl ?_
                first | (simp only [Ctl, Hang, decide_eq_true_eq, Bool.false_eq_true, false_iff, true_iff, iff_true, iff_false, Bool.not_eq_true]; omega) | grind [Ctl, Hang]
  refine TC.ret ?_
  exact ret_bool rfl (by simp)
end Go.Ob
