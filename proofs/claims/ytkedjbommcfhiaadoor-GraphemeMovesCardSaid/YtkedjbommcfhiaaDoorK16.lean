import Derived.Test.YtkedjbommcfhiaaDoorK15
set_option linter.unusedVariables false
set_option linter.unusedSimpArgs false
namespace Go.Ob
open Go.Proofs
set_option maxHeartbeats 4000000 in
set_option maxRecDepth 100000 in
theorem GraphemeMoves_spec (s : ByteArray) (a : Int) : Fun Tryd.prog 11 [.v (.string s), .v (.int .i64 a)] (.v (.bool true)) := by
  refine Fun.enter (n := 145) (rs := [.tmp 4]) Tryd.func11 rfl Tryd.ntmps11 Tryd.results11 rfl (fun w F => ?_)
  refine TC.seq ?_
  refine TC.region ?_
  refine TL.run1 (pure_assign rfl) rfl ?_
  refine TL.nil' ?_
  refine TC.seq ?_
  refine TC.region ?_
  refine TL.run1 (pure_move rfl) rfl ?_
  refine TL.run1 (pure_call (cut_spec s) (.cons rfl .nil) Tryd.call15) rfl ?_
  refine TL.run1 (pure_assign rfl) rfl ?_
  refine TL.nil' ?_
  refine TC.seq ?_
  obtain ⟨c, hcd⟩ : ∃ c, cutS s = c := ⟨_, rfl⟩
  rw [hcd]
  have hcs : c.size ≤ 300 := hcd ▸ cutS_size s
  have hnl := nR_le c
  have hbl : (bnds (cls c)).length = (cAll (cls c)).length + 1 := ends_len _
  have hcl := cAll_len_le (cls c)
  rw [cls_len] at hcl
  have hkb := encI_len (bnds (cls c))
  have hlp : ((encI (pts c)).length : Int) = nR c := by rw [encI_len, pts_len]
  refine TC.region ?_
  refine TL.run1 (pure_move rfl) rfl ?_
  refine TL.run1 (pure_move rfl) rfl ?_
  refine TL.run1 (pure_call (GIsBoundary_spec c a (by omega)) (.cons rfl (.cons rfl .nil)) Tryd.call27) rfl ?_
  refine TL.run1 (pure_move rfl) rfl ?_
  refine TL.run1 (pure_extract rfl rfl) rfl ?_
  refine TL.run1 (pure_extract rfl rfl) rfl ?_
  refine TL.run1 (pure_assign rfl) rfl ?_
  refine TL.run1 (pure_assign rfl) rfl ?_
  refine TL.nil' ?_
  refine TC.seq ?_
  refine TC.region ?_
  refine TL.run1 (pure_move rfl) rfl ?_
  refine TL.run1 (pure_move rfl) rfl ?_
  refine TL.run1 (pure_call (GNext_spec c a (by omega)) (.cons rfl (.cons rfl .nil)) Tryd.call25) rfl ?_
  refine TL.run1 (pure_move rfl) rfl ?_
  refine TL.run1 (pure_extract rfl rfl) rfl ?_
  refine TL.run1 (pure_extract rfl rfl) rfl ?_
  refine TL.run1 (pure_assign rfl) rfl ?_
  refine TL.run1 (pure_assign rfl) rfl ?_
  refine TL.nil' ?_
  refine TC.seq ?_
  refine TC.region ?_
  refine TL.run1 (pure_move rfl) rfl ?_
  refine TL.run1 (pure_move rfl) rfl ?_
  refine TL.run1 (pure_call (GPrev_spec c a (by omega)) (.cons rfl (.cons rfl .nil)) Tryd.call26) rfl ?_
  refine TL.run1 (pure_move rfl) rfl ?_
  refine TL.run1 (pure_extract rfl rfl) rfl ?_
  refine TL.run1 (pure_extract rfl rfl) rfl ?_
  refine TL.run1 (pure_assign rfl) rfl ?_
  refine TL.run1 (pure_assign rfl) rfl ?_
  refine TL.nil' ?_
  refine TC.seq ?_
  refine TC.region ?_
  refine TL.run1 (pure_move rfl) rfl ?_
  refine TL.run1 (pure_move rfl) rfl ?_
  refine TL.run1 (pure_call (GFloor_spec c a (by omega)) (.cons rfl (.cons rfl .nil)) Tryd.call28) rfl ?_
  refine TL.run1 (pure_move rfl) rfl ?_
  refine TL.run1 (pure_extract rfl rfl) rfl ?_
  refine TL.run1 (pure_extract rfl rfl) rfl ?_
  refine TL.run1 (pure_assign rfl) rfl ?_
  refine TL.run1 (pure_assign rfl) rfl ?_
  refine TL.nil' ?_
  refine TC.seq ?_
  refine TC.region ?_
  refine TL.run1 (pure_move rfl) rfl ?_
  refine TL.run1 (pure_call (Points_spec c (by omega)) (.cons rfl .nil) Tryd.call17) rfl ?_
  refine TL.run1 (pure_move rfl) rfl ?_
  refine TL.run1 (pure_extract rfl rfl) rfl ?_
  refine TL.run1 (pure_extract rfl rfl) rfl ?_
  refine TL.run1 (pure_extract rfl rfl) rfl ?_
  refine TL.run1 (pure_assign rfl) rfl ?_
  refine TL.run1 (pure_assign rfl) rfl ?_
  refine TL.run1 (pure_assign rfl) rfl ?_
  refine TL.nil' ?_
  refine TC.seq ?_
  refine TC.seq ?_
  refine TC.region ?_
  refine TL.run1 (pure_call (known_spec) .nil Tryd.call12) rfl ?_
  refine TL.run1 (pure_not rfl) rfl ?_
  refine TL.nil' ?_
  first | refine TC.condD rfl (fun hc51 => ?_) (fun hc51 => ?_) | refine TC.condN rfl (fun hc51 => ?_) (fun hc51 => ?_) | refine TC.cond rfl (fun hc51 => ?_) (fun hc51 => ?_)
  · try dsimp only at hc51
    exact absurd hc51 (by simp)
  · try dsimp only at hc51
    refine TC.skip' ?_
    refine TC.seq ?_
    refine TC.region ?_
    refine TL.run1 (pure_assign rfl) rfl ?_
    refine TL.nil' ?_
    refine TC.seq ?_
    refine TC.seq ?_
    refine TC.region ?_
    refine TL.run1 (pure_move rfl) rfl ?_
    refine TL.run1 (pure_not rfl) rfl ?_
    refine TL.nil' ?_
    first | refine TC.condD rfl (fun hc53 => ?_) (fun hc53 => ?_) | refine TC.condN rfl (fun hc53 => ?_) (fun hc53 => ?_) | refine TC.cond rfl (fun hc53 => ?_) (fun hc53 => ?_)
    · try dsimp only at hc53
      have hok : okS c = false := decide_eq_false hc53
      obtain ⟨v1, v2, v3, v4, v5⟩ := badV hok
      have he : errW c a = 12 := errW_bad hok
      have hne : errW c a ≠ 0 := by omega
      rw [isV_bad hne, movV_bad hne, movV_bad hne, movV_bad hne, he]
      refine TC.region ?_
      refine TL.run1 (pure_assign rfl) rfl ?_
      refine TL.nil' ?_
      refine TC.seq ?_
      refine TC.seq ?_
      refine TC.region ?_
      refine TL.run1 (pure_move rfl) rfl ?_
      refine TL.run1 (pure_neq rfl rfl) rfl ?_
      refine TL.nil' ?_
      first | refine TC.condD rfl (fun hc63 => ?_) (fun hc63 => ?_) | refine TC.condN rfl (fun hc63 => ?_) (fun hc63 => ?_) | refine TC.cond rfl (fun hc63 => ?_) (fun hc63 => ?_)
      · try dsimp only at hc63
        refine TC.regionCut [64, 65, 66, 67, 68, 69, 70, 71, 72, 73, 74, 75, 76, 77, 78, 79, 80, 81, 82, 83, 84, 85, 86, 87, 88, 89, 90, 91, 92, 93, 94, 95, 96, 97, 4] 4 (True) ?_ ?_
        · skip
          refine TL.run1 (pure_move rfl) rfl ?_
          refine TL.run1 (pure_move rfl) rfl ?_
          refine TL.run1 (pure_eql rfl rfl) rfl ?_
          refine TL.run1 (pure_move rfl) rfl ?_
          first | refine TL.splitP 67 rfl (fun hg67 => ?_) (fun hg67 => ?_) | refine TL.split 67 rfl (fun hg67 => ?_) (fun hg67 => ?_)
          · try dsimp only at hg67
            refine TL.runG rfl rfl (pure_move rfl) rfl ?_
            refine TL.runG rfl rfl (pure_move rfl) rfl ?_
            refine TL.runG rfl rfl (pure_eql rfl rfl) rfl ?_
            refine TL.run1 (pure_pick_true rfl rfl) rfl ?_
            refine TL.run1 (pure_move rfl) rfl ?_
            first | refine TL.splitP 72 rfl (fun hg72 => ?_) (fun hg72 => ?_) | refine TL.split 72 rfl (fun hg72 => ?_) (fun hg72 => ?_)
            · try dsimp only at hg72
              refine TL.runG rfl rfl (pure_move rfl) rfl ?_
              refine TL.runG rfl rfl (pure_move rfl) rfl ?_
              refine TL.runG rfl rfl (pure_eql rfl rfl) rfl ?_
              refine TL.run1 (pure_pick_true rfl rfl) rfl ?_
              refine TL.run1 (pure_move rfl) rfl ?_
              first | refine TL.splitP 77 rfl (fun hg77 => ?_) (fun hg77 => ?_) | refine TL.split 77 rfl (fun hg77 => ?_) (fun hg77 => ?_)
              · try dsimp only at hg77
                refine TL.runG rfl rfl (pure_move rfl) rfl ?_
                refine TL.runG rfl rfl (pure_move rfl) rfl ?_
                refine TL.runG rfl rfl (pure_eql rfl rfl) rfl ?_
                refine TL.run1 (pure_pick_true rfl rfl) rfl ?_
                refine TL.run1 (pure_move rfl) rfl ?_
                first | refine TL.splitP 82 rfl (fun hg82 => ?_) (fun hg82 => ?_) | refine TL.split 82 rfl (fun hg82 => ?_) (fun hg82 => ?_)
                · try dsimp only at hg82
                  refine TL.runG rfl rfl (pure_move rfl) rfl ?_
                  refine TL.runG rfl rfl (pure_not rfl) rfl ?_
                  refine TL.run1 (pure_pick_true rfl rfl) rfl ?_
                  refine TL.run1 (pure_move rfl) rfl ?_
                  first | refine TL.splitP 86 rfl (fun hg86 => ?_) (fun hg86 => ?_) | refine TL.split 86 rfl (fun hg86 => ?_) (fun hg86 => ?_)
                  · try dsimp only at hg86
                    refine TL.runG rfl rfl (pure_move rfl) rfl ?_
                    refine TL.runG rfl rfl (pure_eql rfl rfl) rfl ?_
                    refine TL.run1 (pure_pick_true rfl rfl) rfl ?_
                    refine TL.run1 (pure_move rfl) rfl ?_
                    first | refine TL.splitP 90 rfl (fun hg90 => ?_) (fun hg90 => ?_) | refine TL.split 90 rfl (fun hg90 => ?_) (fun hg90 => ?_)
                    · try dsimp only at hg90
                      refine TL.runG rfl rfl (pure_move rfl) rfl ?_
                      refine TL.runG rfl rfl (pure_eql rfl rfl) rfl ?_
                      refine TL.run1 (pure_pick_true rfl rfl) rfl ?_
                      refine TL.run1 (pure_move rfl) rfl ?_
                      first | refine TL.splitP 94 rfl (fun hg94 => ?_) (fun hg94 => ?_) | refine TL.split 94 rfl (fun hg94 => ?_) (fun hg94 => ?_)
                      · try dsimp only at hg94
                        refine TL.runG rfl rfl (pure_move rfl) rfl ?_
                        refine TL.runG rfl rfl (pure_eql rfl rfl) rfl ?_
                        refine TL.run1 (pure_pick_true rfl rfl) rfl ?_
                        refine TL.run1 (pure_assign rfl) rfl ?_
                        refine TL.cutEnd (by repeat (first | exact Same.refl _ _ | refine Same.put rfl ?_)) rfl ?_
                        first | (simp; done) | (simp_all; done)
                      · try dsimp only at hg94
                        refine TL.passG rfl rfl rfl rfl ?_
                        refine TL.passG rfl rfl rfl rfl ?_
                        refine TL.run1 (pure_pick_false rfl rfl) rfl ?_
                        refine TL.run1 (pure_assign rfl) rfl ?_
                        refine TL.cutEnd (by repeat (first | exact Same.refl _ _ | refine Same.put rfl ?_)) rfl ?_
                        first | (simp; done) | (simp_all; done)
                    · try dsimp only at hg90
                      refine TL.passG rfl rfl rfl rfl ?_
                      refine TL.passG rfl rfl rfl rfl ?_
                      refine TL.run1 (pure_pick_false rfl rfl) rfl ?_
                      refine TL.run1 (pure_move rfl) rfl ?_
                      refine TL.passG rfl rfl rfl rfl ?_
                      refine TL.passG rfl rfl rfl rfl ?_
                      refine TL.run1 (pure_pick_false rfl rfl) rfl ?_
                      refine TL.run1 (pure_assign rfl) rfl ?_
                      refine TL.cutEnd (by repeat (first | exact Same.refl _ _ | refine Same.put rfl ?_)) rfl ?_
                      first | (simp; done) | (simp_all; done)
                  · try dsimp only at hg86
                    refine TL.passG rfl rfl rfl rfl ?_
                    refine TL.passG rfl rfl rfl rfl ?_
                    refine TL.run1 (pure_pick_false rfl rfl) rfl ?_
                    refine TL.run1 (pure_move rfl) rfl ?_
                    refine TL.passG rfl rfl rfl rfl ?_
                    refine TL.passG rfl rfl rfl rfl ?_
                    refine TL.run1 (pure_pick_false rfl rfl) rfl ?_
                    refine TL.run1 (pure_move rfl) rfl ?_
                    refine TL.passG rfl rfl rfl rfl ?_
                    refine TL.passG rfl rfl rfl rfl ?_
                    refine TL.run1 (pure_pick_false rfl rfl) rfl ?_
                    refine TL.run1 (pure_assign rfl) rfl ?_
                    refine TL.cutEnd (by repeat (first | exact Same.refl _ _ | refine Same.put rfl ?_)) rfl ?_
                    first | (simp; done) | (simp_all; done)
                · try dsimp only at hg82
                  refine TL.passG rfl rfl rfl rfl ?_
                  refine TL.passG rfl rfl rfl rfl ?_
                  refine TL.run1 (pure_pick_false rfl rfl) rfl ?_
                  refine TL.run1 (pure_move rfl) rfl ?_
                  refine TL.passG rfl rfl rfl rfl ?_
                  refine TL.passG rfl rfl rfl rfl ?_
                  refine TL.run1 (pure_pick_false rfl rfl) rfl ?_
                  refine TL.run1 (pure_move rfl) rfl ?_
                  refine TL.passG rfl rfl rfl rfl ?_
                  refine TL.passG rfl rfl rfl rfl ?_
                  refine TL.run1 (pure_pick_false rfl rfl) rfl ?_
                  refine TL.run1 (pure_move rfl) rfl ?_
                  refine TL.passG rfl rfl rfl rfl ?_
                  refine TL.passG rfl rfl rfl rfl ?_
                  refine TL.run1 (pure_pick_false rfl rfl) rfl ?_
                  refine TL.run1 (pure_assign rfl) rfl ?_
                  refine TL.cutEnd (by repeat (first | exact Same.refl _ _ | refine Same.put rfl ?_)) rfl ?_
                  first | (simp; done) | (simp_all; done)
              · try dsimp only at hg77
                refine TL.passG rfl rfl rfl rfl ?_
                refine TL.passG rfl rfl rfl rfl ?_
                refine TL.passG rfl rfl rfl rfl ?_
                refine TL.run1 (pure_pick_false rfl rfl) rfl ?_
                refine TL.run1 (pure_move rfl) rfl ?_
                refine TL.passG rfl rfl rfl rfl ?_
                refine TL.passG rfl rfl rfl rfl ?_
                refine TL.run1 (pure_pick_false rfl rfl) rfl ?_
                refine TL.run1 (pure_move rfl) rfl ?_
                refine TL.passG rfl rfl rfl rfl ?_
                refine TL.passG rfl rfl rfl rfl ?_
                refine TL.run1 (pure_pick_false rfl rfl) rfl ?_
                refine TL.run1 (pure_move rfl) rfl ?_
                refine TL.passG rfl rfl rfl rfl ?_
                refine TL.passG rfl rfl rfl rfl ?_
                refine TL.run1 (pure_pick_false rfl rfl) rfl ?_
                refine TL.run1 (pure_move rfl) rfl ?_
                refine TL.passG rfl rfl rfl rfl ?_
                refine TL.passG rfl rfl rfl rfl ?_
                refine TL.run1 (pure_pick_false rfl rfl) rfl ?_
                refine TL.run1 (pure_assign rfl) rfl ?_
                refine TL.cutEnd (by repeat (first | exact Same.refl _ _ | refine Same.put rfl ?_)) rfl ?_
                first | (simp; done) | (simp_all; done)
            · try dsimp only at hg72
              refine TL.passG rfl rfl rfl rfl ?_
              refine TL.passG rfl rfl rfl rfl ?_
              refine TL.passG rfl rfl rfl rfl ?_
              refine TL.run1 (pure_pick_false rfl rfl) rfl ?_
              refine TL.run1 (pure_move rfl) rfl ?_
              refine TL.passG rfl rfl rfl rfl ?_
              refine TL.passG rfl rfl rfl rfl ?_
              refine TL.passG rfl rfl rfl rfl ?_
              refine TL.run1 (pure_pick_false rfl rfl) rfl ?_
              refine TL.run1 (pure_move rfl) rfl ?_
              refine TL.passG rfl rfl rfl rfl ?_
              refine TL.passG rfl rfl rfl rfl ?_
              refine TL.run1 (pure_pick_false rfl rfl) rfl ?_
              refine TL.run1 (pure_move rfl) rfl ?_
              refine TL.passG rfl rfl rfl rfl ?_
              refine TL.passG rfl rfl rfl rfl ?_
              refine TL.run1 (pure_pick_false rfl rfl) rfl ?_
              refine TL.run1 (pure_move rfl) rfl ?_
              refine TL.passG rfl rfl rfl rfl ?_
              refine TL.passG rfl rfl rfl rfl ?_
              refine TL.run1 (pure_pick_false rfl rfl) rfl ?_
              refine TL.run1 (pure_move rfl) rfl ?_
              refine TL.passG rfl rfl rfl rfl ?_
              refine TL.passG rfl rfl rfl rfl ?_
              refine TL.run1 (pure_pick_false rfl rfl) rfl ?_
              refine TL.run1 (pure_assign rfl) rfl ?_
              refine TL.cutEnd (by repeat (first | exact Same.refl _ _ | refine Same.put rfl ?_)) rfl ?_
              first | (simp; done) | (simp_all; done)
          · try dsimp only at hg67
            refine TL.passG rfl rfl rfl rfl ?_
            refine TL.passG rfl rfl rfl rfl ?_
            refine TL.passG rfl rfl rfl rfl ?_
            refine TL.run1 (pure_pick_false rfl rfl) rfl ?_
            refine TL.run1 (pure_move rfl) rfl ?_
            refine TL.passG rfl rfl rfl rfl ?_
            refine TL.passG rfl rfl rfl rfl ?_
            refine TL.passG rfl rfl rfl rfl ?_
            refine TL.run1 (pure_pick_false rfl rfl) rfl ?_
            refine TL.run1 (pure_move rfl) rfl ?_
            refine TL.passG rfl rfl rfl rfl ?_
            refine TL.passG rfl rfl rfl rfl ?_
            refine TL.passG rfl rfl rfl rfl ?_
            refine TL.run1 (pure_pick_false rfl rfl) rfl ?_
            refine TL.run1 (pure_move rfl) rfl ?_
            refine TL.passG rfl rfl rfl rfl ?_
            refine TL.passG rfl rfl rfl rfl ?_
            refine TL.run1 (pure_pick_false rfl rfl) rfl ?_
            refine TL.run1 (pure_move rfl) rfl ?_
            refine TL.passG rfl rfl rfl rfl ?_
            refine TL.passG rfl rfl rfl rfl ?_
            refine TL.run1 (pure_pick_false rfl rfl) rfl ?_
            refine TL.run1 (pure_move rfl) rfl ?_
            refine TL.passG rfl rfl rfl rfl ?_
            refine TL.passG rfl rfl rfl rfl ?_
            refine TL.run1 (pure_pick_false rfl rfl) rfl ?_
            refine TL.run1 (pure_move rfl) rfl ?_
            refine TL.passG rfl rfl rfl rfl ?_
            refine TL.passG rfl rfl rfl rfl ?_
            refine TL.run1 (pure_pick_false rfl rfl) rfl ?_
            refine TL.run1 (pure_assign rfl) rfl ?_
            refine TL.cutEnd (by repeat (first | exact Same.refl _ _ | refine Same.put rfl ?_)) rfl ?_
            first | (simp; done) | (simp_all; done)
        refine TC.ret ?_
        refine then_ret ?_
        exact ret_bool rfl (by simp)
      · try dsimp only at hc63
        all_goals exact absurd hc63 (by simp)
    · try dsimp only at hc53
      have hok : okS c = true := decide_eq_true hc53
      obtain ⟨v1, v2, v3, v4, v5⟩ := okV hok
      rw [v1]
      refine TC.regionCut [54, 55, 56, 57, 58, 59, 60, 61] 61 ((a < 0 ∨ a > nR c)) ?_ ?_
      · skip
        refine TL.run1 (pure_move rfl) rfl ?_
        refine TL.run1 (pure_lss rfl rfl) rfl ?_
        refine TL.run1 (pure_move rfl) rfl ?_
        first | refine TL.splitP 56 rfl (fun hg56 => ?_) (fun hg56 => ?_) | refine TL.split 56 rfl (fun hg56 => ?_) (fun hg56 => ?_)
        · try dsimp only at hg56
          refine TL.passG rfl rfl rfl rfl ?_
          refine TL.passG rfl rfl rfl rfl ?_
          refine TL.passG rfl rfl rfl rfl ?_
          refine TL.passG rfl rfl rfl rfl ?_
          refine TL.run1 (pure_pick_true rfl rfl) rfl ?_
          refine TL.cutEnd (by repeat (first | exact Same.refl _ _ | refine Same.put rfl ?_)) rfl ?_
          first | (rw [hlp]; simp only [decide_eq_true_eq]; omega) | (simp only [decide_eq_true_eq, true_iff, Bool.false_eq_true, false_iff]; omega) | grind
        · try dsimp only at hg56
          refine TL.runG rfl rfl (pure_move rfl) rfl ?_
          refine TL.runG rfl rfl (pure_move rfl) rfl ?_
          first | refine TL.runG rfl rfl (pure_len Ty.sl26 rfl) rfl ?_ | refine TL.runG rfl rfl (pure_len_row Ty.sl26 rfl (by repeat (first | exact List.Mem.head _ | apply List.Mem.tail))) rfl ?_ | refine TL.runG rfl rfl (pure_len_nil Ty.sl26 rfl) rfl ?_
          refine TL.runG rfl rfl (pure_gtr rfl rfl) rfl ?_
          refine TL.run1 (pure_pick_false rfl rfl) rfl ?_
          refine TL.cutEnd (by repeat (first | exact Same.refl _ _ | refine Same.put rfl ?_)) rfl ?_
          first | (rw [hlp]; simp only [decide_eq_true_eq]; omega) | (simp only [decide_eq_true_eq, true_iff, Bool.false_eq_true, false_iff]; omega) | grind
      first | refine TC.condD rfl (fun hc61 => ?_) (fun hc61 => ?_) | refine TC.condN rfl (fun hc61 => ?_) (fun hc61 => ?_) | refine TC.cond rfl (fun hc61 => ?_) (fun hc61 => ?_)
      · try dsimp only at hc61
        have he : errW c a = 2 := errW_out hok hc61
        have hne : errW c a ≠ 0 := by omega
        rw [isV_bad hne, movV_bad hne, movV_bad hne, movV_bad hne, he]
        refine TC.region ?_
        refine TL.run1 (pure_assign rfl) rfl ?_
        refine TL.nil' ?_
        refine TC.seq ?_
        refine TC.seq ?_
        refine TC.region ?_
        refine TL.run1 (pure_move rfl) rfl ?_
        refine TL.run1 (pure_neq rfl rfl) rfl ?_
        refine TL.nil' ?_
        first | refine TC.condD rfl (fun hc63 => ?_) (fun hc63 => ?_) | refine TC.condN rfl (fun hc63 => ?_) (fun hc63 => ?_) | refine TC.cond rfl (fun hc63 => ?_) (fun hc63 => ?_)
        · try dsimp only at hc63
          refine TC.regionCut [64, 65, 66, 67, 68, 69, 70, 71, 72, 73, 74, 75, 76, 77, 78, 79, 80, 81, 82, 83, 84, 85, 86, 87, 88, 89, 90, 91, 92, 93, 94, 95, 96, 97, 4] 4 (True) ?_ ?_
          · skip
            refine TL.run1 (pure_move rfl) rfl ?_
            refine TL.run1 (pure_move rfl) rfl ?_
            refine TL.run1 (pure_eql rfl rfl) rfl ?_
            refine TL.run1 (pure_move rfl) rfl ?_
            first | refine TL.splitP 67 rfl (fun hg67 => ?_) (fun hg67 => ?_) | refine TL.split 67 rfl (fun hg67 => ?_) (fun hg67 => ?_)
            · try dsimp only at hg67
              refine TL.runG rfl rfl (pure_move rfl) rfl ?_
              refine TL.runG rfl rfl (pure_move rfl) rfl ?_
              refine TL.runG rfl rfl (pure_eql rfl rfl) rfl ?_
              refine TL.run1 (pure_pick_true rfl rfl) rfl ?_
              refine TL.run1 (pure_move rfl) rfl ?_
              first | refine TL.splitP 72 rfl (fun hg72 => ?_) (fun hg72 => ?_) | refine TL.split 72 rfl (fun hg72 => ?_) (fun hg72 => ?_)
              · try dsimp only at hg72
                refine TL.runG rfl rfl (pure_move rfl) rfl ?_
                refine TL.runG rfl rfl (pure_move rfl) rfl ?_
                refine TL.runG rfl rfl (pure_eql rfl rfl) rfl ?_
                refine TL.run1 (pure_pick_true rfl rfl) rfl ?_
                refine TL.run1 (pure_move rfl) rfl ?_
                first | refine TL.splitP 77 rfl (fun hg77 => ?_) (fun hg77 => ?_) | refine TL.split 77 rfl (fun hg77 => ?_) (fun hg77 => ?_)
                · try dsimp only at hg77
                  refine TL.runG rfl rfl (pure_move rfl) rfl ?_
                  refine TL.runG rfl rfl (pure_move rfl) rfl ?_
                  refine TL.runG rfl rfl (pure_eql rfl rfl) rfl ?_
                  refine TL.run1 (pure_pick_true rfl rfl) rfl ?_
                  refine TL.run1 (pure_move rfl) rfl ?_
                  first | refine TL.splitP 82 rfl (fun hg82 => ?_) (fun hg82 => ?_) | refine TL.split 82 rfl (fun hg82 => ?_) (fun hg82 => ?_)
                  · try dsimp only at hg82
                    refine TL.runG rfl rfl (pure_move rfl) rfl ?_
                    refine TL.runG rfl rfl (pure_not rfl) rfl ?_
                    refine TL.run1 (pure_pick_true rfl rfl) rfl ?_
                    refine TL.run1 (pure_move rfl) rfl ?_
                    first | refine TL.splitP 86 rfl (fun hg86 => ?_) (fun hg86 => ?_) | refine TL.split 86 rfl (fun hg86 => ?_) (fun hg86 => ?_)
                    · try dsimp only at hg86
                      refine TL.runG rfl rfl (pure_move rfl) rfl ?_
                      refine TL.runG rfl rfl (pure_eql rfl rfl) rfl ?_
                      refine TL.run1 (pure_pick_true rfl rfl) rfl ?_
                      refine TL.run1 (pure_move rfl) rfl ?_
                      first | refine TL.splitP 90 rfl (fun hg90 => ?_) (fun hg90 => ?_) | refine TL.split 90 rfl (fun hg90 => ?_) (fun hg90 => ?_)
                      · try dsimp only at hg90
                        refine TL.runG rfl rfl (pure_move rfl) rfl ?_
                        refine TL.runG rfl rfl (pure_eql rfl rfl) rfl ?_
                        refine TL.run1 (pure_pick_true rfl rfl) rfl ?_
                        refine TL.run1 (pure_move rfl) rfl ?_
                        first | refine TL.splitP 94 rfl (fun hg94 => ?_) (fun hg94 => ?_) | refine TL.split 94 rfl (fun hg94 => ?_) (fun hg94 => ?_)
                        · try dsimp only at hg94
                          refine TL.runG rfl rfl (pure_move rfl) rfl ?_
                          refine TL.runG rfl rfl (pure_eql rfl rfl) rfl ?_
                          refine TL.run1 (pure_pick_true rfl rfl) rfl ?_
                          refine TL.run1 (pure_assign rfl) rfl ?_
                          refine TL.cutEnd (by repeat (first | exact Same.refl _ _ | refine Same.put rfl ?_)) rfl ?_
                          first | (simp; done) | (simp_all; done)
                        · try dsimp only at hg94
                          refine TL.passG rfl rfl rfl rfl ?_
                          refine TL.passG rfl rfl rfl rfl ?_
                          refine TL.run1 (pure_pick_false rfl rfl) rfl ?_
                          refine TL.run1 (pure_assign rfl) rfl ?_
                          refine TL.cutEnd (by repeat (first | exact Same.refl _ _ | refine Same.put rfl ?_)) rfl ?_
                          first | (simp; done) | (simp_all; done)
                      · try dsimp only at hg90
                        refine TL.passG rfl rfl rfl rfl ?_
                        refine TL.passG rfl rfl rfl rfl ?_
                        refine TL.run1 (pure_pick_false rfl rfl) rfl ?_
                        refine TL.run1 (pure_move rfl) rfl ?_
                        refine TL.passG rfl rfl rfl rfl ?_
                        refine TL.passG rfl rfl rfl rfl ?_
                        refine TL.run1 (pure_pick_false rfl rfl) rfl ?_
                        refine TL.run1 (pure_assign rfl) rfl ?_
                        refine TL.cutEnd (by repeat (first | exact Same.refl _ _ | refine Same.put rfl ?_)) rfl ?_
                        first | (simp; done) | (simp_all; done)
                    · try dsimp only at hg86
                      refine TL.passG rfl rfl rfl rfl ?_
                      refine TL.passG rfl rfl rfl rfl ?_
                      refine TL.run1 (pure_pick_false rfl rfl) rfl ?_
                      refine TL.run1 (pure_move rfl) rfl ?_
                      refine TL.passG rfl rfl rfl rfl ?_
                      refine TL.passG rfl rfl rfl rfl ?_
                      refine TL.run1 (pure_pick_false rfl rfl) rfl ?_
                      refine TL.run1 (pure_move rfl) rfl ?_
                      refine TL.passG rfl rfl rfl rfl ?_
                      refine TL.passG rfl rfl rfl rfl ?_
                      refine TL.run1 (pure_pick_false rfl rfl) rfl ?_
                      refine TL.run1 (pure_assign rfl) rfl ?_
                      refine TL.cutEnd (by repeat (first | exact Same.refl _ _ | refine Same.put rfl ?_)) rfl ?_
                      first | (simp; done) | (simp_all; done)
                  · try dsimp only at hg82
                    refine TL.passG rfl rfl rfl rfl ?_
                    refine TL.passG rfl rfl rfl rfl ?_
                    refine TL.run1 (pure_pick_false rfl rfl) rfl ?_
                    refine TL.run1 (pure_move rfl) rfl ?_
                    refine TL.passG rfl rfl rfl rfl ?_
                    refine TL.passG rfl rfl rfl rfl ?_
                    refine TL.run1 (pure_pick_false rfl rfl) rfl ?_
                    refine TL.run1 (pure_move rfl) rfl ?_
                    refine TL.passG rfl rfl rfl rfl ?_
                    refine TL.passG rfl rfl rfl rfl ?_
                    refine TL.run1 (pure_pick_false rfl rfl) rfl ?_
                    refine TL.run1 (pure_move rfl) rfl ?_
                    refine TL.passG rfl rfl rfl rfl ?_
                    refine TL.passG rfl rfl rfl rfl ?_
                    refine TL.run1 (pure_pick_false rfl rfl) rfl ?_
                    refine TL.run1 (pure_assign rfl) rfl ?_
                    refine TL.cutEnd (by repeat (first | exact Same.refl _ _ | refine Same.put rfl ?_)) rfl ?_
                    first | (simp; done) | (simp_all; done)
                · try dsimp only at hg77
                  refine TL.passG rfl rfl rfl rfl ?_
                  refine TL.passG rfl rfl rfl rfl ?_
                  refine TL.passG rfl rfl rfl rfl ?_
                  refine TL.run1 (pure_pick_false rfl rfl) rfl ?_
                  refine TL.run1 (pure_move rfl) rfl ?_
                  refine TL.passG rfl rfl rfl rfl ?_
                  refine TL.passG rfl rfl rfl rfl ?_
                  refine TL.run1 (pure_pick_false rfl rfl) rfl ?_
                  refine TL.run1 (pure_move rfl) rfl ?_
                  refine TL.passG rfl rfl rfl rfl ?_
                  refine TL.passG rfl rfl rfl rfl ?_
                  refine TL.run1 (pure_pick_false rfl rfl) rfl ?_
                  refine TL.run1 (pure_move rfl) rfl ?_
                  refine TL.passG rfl rfl rfl rfl ?_
                  refine TL.passG rfl rfl rfl rfl ?_
                  refine TL.run1 (pure_pick_false rfl rfl) rfl ?_
                  refine TL.run1 (pure_move rfl) rfl ?_
                  refine TL.passG rfl rfl rfl rfl ?_
                  refine TL.passG rfl rfl rfl rfl ?_
                  refine TL.run1 (pure_pick_false rfl rfl) rfl ?_
                  refine TL.run1 (pure_assign rfl) rfl ?_
                  refine TL.cutEnd (by repeat (first | exact Same.refl _ _ | refine Same.put rfl ?_)) rfl ?_
                  first | (simp; done) | (simp_all; done)
              · try dsimp only at hg72
                refine TL.passG rfl rfl rfl rfl ?_
                refine TL.passG rfl rfl rfl rfl ?_
                refine TL.passG rfl rfl rfl rfl ?_
                refine TL.run1 (pure_pick_false rfl rfl) rfl ?_
                refine TL.run1 (pure_move rfl) rfl ?_
                refine TL.passG rfl rfl rfl rfl ?_
                refine TL.passG rfl rfl rfl rfl ?_
                refine TL.passG rfl rfl rfl rfl ?_
                refine TL.run1 (pure_pick_false rfl rfl) rfl ?_
                refine TL.run1 (pure_move rfl) rfl ?_
                refine TL.passG rfl rfl rfl rfl ?_
                refine TL.passG rfl rfl rfl rfl ?_
                refine TL.run1 (pure_pick_false rfl rfl) rfl ?_
                refine TL.run1 (pure_move rfl) rfl ?_
                refine TL.passG rfl rfl rfl rfl ?_
                refine TL.passG rfl rfl rfl rfl ?_
                refine TL.run1 (pure_pick_false rfl rfl) rfl ?_
                refine TL.run1 (pure_move rfl) rfl ?_
                refine TL.passG rfl rfl rfl rfl ?_
                refine TL.passG rfl rfl rfl rfl ?_
                refine TL.run1 (pure_pick_false rfl rfl) rfl ?_
                refine TL.run1 (pure_move rfl) rfl ?_
                refine TL.passG rfl rfl rfl rfl ?_
                refine TL.passG rfl rfl rfl rfl ?_
                refine TL.run1 (pure_pick_false rfl rfl) rfl ?_
                refine TL.run1 (pure_assign rfl) rfl ?_
                refine TL.cutEnd (by repeat (first | exact Same.refl _ _ | refine Same.put rfl ?_)) rfl ?_
                first | (simp; done) | (simp_all; done)
            · try dsimp only at hg67
              refine TL.passG rfl rfl rfl rfl ?_
              refine TL.passG rfl rfl rfl rfl ?_
              refine TL.passG rfl rfl rfl rfl ?_
              refine TL.run1 (pure_pick_false rfl rfl) rfl ?_
              refine TL.run1 (pure_move rfl) rfl ?_
              refine TL.passG rfl rfl rfl rfl ?_
              refine TL.passG rfl rfl rfl rfl ?_
              refine TL.passG rfl rfl rfl rfl ?_
              refine TL.run1 (pure_pick_false rfl rfl) rfl ?_
              refine TL.run1 (pure_move rfl) rfl ?_
              refine TL.passG rfl rfl rfl rfl ?_
              refine TL.passG rfl rfl rfl rfl ?_
              refine TL.passG rfl rfl rfl rfl ?_
              refine TL.run1 (pure_pick_false rfl rfl) rfl ?_
              refine TL.run1 (pure_move rfl) rfl ?_
              refine TL.passG rfl rfl rfl rfl ?_
              refine TL.passG rfl rfl rfl rfl ?_
              refine TL.run1 (pure_pick_false rfl rfl) rfl ?_
              refine TL.run1 (pure_move rfl) rfl ?_
              refine TL.passG rfl rfl rfl rfl ?_
              refine TL.passG rfl rfl rfl rfl ?_
              refine TL.run1 (pure_pick_false rfl rfl) rfl ?_
              refine TL.run1 (pure_move rfl) rfl ?_
              refine TL.passG rfl rfl rfl rfl ?_
              refine TL.passG rfl rfl rfl rfl ?_
              refine TL.run1 (pure_pick_false rfl rfl) rfl ?_
              refine TL.run1 (pure_move rfl) rfl ?_
              refine TL.passG rfl rfl rfl rfl ?_
              refine TL.passG rfl rfl rfl rfl ?_
              refine TL.run1 (pure_pick_false rfl rfl) rfl ?_
              refine TL.run1 (pure_assign rfl) rfl ?_
              refine TL.cutEnd (by repeat (first | exact Same.refl _ _ | refine Same.put rfl ?_)) rfl ?_
              first | (simp; done) | (simp_all; done)
          refine TC.ret ?_
          refine then_ret ?_
          exact ret_bool rfl (by simp)
        · try dsimp only at hc63
          all_goals exact absurd hc63 (by simp)
      · try dsimp only at hc61
        have he : errW c a = 0 := errW_ok hok hc61
        rw [isV_ok he, movV_ok he, movV_ok he, movV_ok he, he]
        refine TC.skip' ?_
        refine TC.seq ?_
        refine TC.seq ?_
        refine TC.region ?_
        refine TL.run1 (pure_move rfl) rfl ?_
        refine TL.run1 (pure_neq rfl rfl) rfl ?_
        refine TL.nil' ?_
        first | refine TC.condD rfl (fun hc63 => ?_) (fun hc63 => ?_) | refine TC.condN rfl (fun hc63 => ?_) (fun hc63 => ?_) | refine TC.cond rfl (fun hc63 => ?_) (fun hc63 => ?_)
        · try dsimp only at hc63
          all_goals exact absurd hc63 (by simp)
        · try dsimp only at hc63
          refine TC.skip' ?_
          refine TC.seq ?_
          refine TC.region ?_
          refine TL.run1 (pure_move rfl) rfl ?_
          refine TL.run1 (pure_call (RBnd_spec c (by omega)) (.cons rfl .nil) Tryd.call19) rfl ?_
          refine TL.run1 (pure_assign rfl) rfl ?_
          refine TL.nil' ?_
          refine TC.regionCut [100, 101, 102, 103, 104, 105, 106, 107, 108, 109, 110, 111, 112, 113, 114, 115, 116, 117, 118, 119, 120, 121, 122, 123, 124, 125, 126, 127, 128, 129, 130, 131, 132, 133, 134, 135, 136, 137, 138, 139, 140, 141, 142, 143, 144, 4] 4 (True) ?_ ?_
          · skip
            refine TL.run1 (pure_move rfl) rfl ?_
            refine TL.run1 (pure_eql rfl rfl) rfl ?_
            refine TL.run1 (pure_move rfl) rfl ?_
            first | refine TL.splitP 102 rfl (fun hg102 => ?_) (fun hg102 => ?_) | refine TL.split 102 rfl (fun hg102 => ?_) (fun hg102 => ?_)
            · try dsimp only at hg102
              refine TL.runG rfl rfl (pure_move rfl) rfl ?_
              refine TL.runG rfl rfl (pure_eql rfl rfl) rfl ?_
              refine TL.run1 (pure_pick_true rfl rfl) rfl ?_
              refine TL.run1 (pure_move rfl) rfl ?_
              first | refine TL.splitP 106 rfl (fun hg106 => ?_) (fun hg106 => ?_) | refine TL.split 106 rfl (fun hg106 => ?_) (fun hg106 => ?_)
              · try dsimp only at hg106
                refine TL.runG rfl rfl (pure_move rfl) rfl ?_
                refine TL.runG rfl rfl (pure_eql rfl rfl) rfl ?_
                refine TL.run1 (pure_pick_true rfl rfl) rfl ?_
                refine TL.run1 (pure_move rfl) rfl ?_
                first | refine TL.splitP 110 rfl (fun hg110 => ?_) (fun hg110 => ?_) | refine TL.split 110 rfl (fun hg110 => ?_) (fun hg110 => ?_)
                · try dsimp only at hg110
                  refine TL.runG rfl rfl (pure_move rfl) rfl ?_
                  refine TL.runG rfl rfl (pure_eql rfl rfl) rfl ?_
                  refine TL.run1 (pure_pick_true rfl rfl) rfl ?_
                  refine TL.run1 (pure_move rfl) rfl ?_
                  first | refine TL.splitP 114 rfl (fun hg114 => ?_) (fun hg114 => ?_) | refine TL.split 114 rfl (fun hg114 => ?_) (fun hg114 => ?_)
                  · try dsimp only at hg114
                    refine TL.runG rfl rfl (pure_move rfl) rfl ?_
                    refine TL.runG rfl rfl (pure_move rfl) rfl ?_
                    refine TL.runG rfl rfl (pure_move rfl) rfl ?_
                    first | refine TL.runG rfl rfl (pure_call (RFloor_spec (bnds (cls c)) a (inc_bnds _) (bnds_zero _) (bnds_pos _) (by omega)) (.cons rfl (.cons rfl .nil)) Tryd.call29) rfl ?_ | refine TL.runG rfl rfl (pure_call (RFloor_spec (bnds (cls c)) (a - 1) (inc_bnds _) (bnds_zero _) (bnds_pos _) (by omega)) (.cons rfl (.cons rfl .nil)) Tryd.call29) rfl ?_
                    refine TL.runG rfl rfl (pure_move rfl) rfl ?_
                    refine TL.runG rfl rfl (pure_eql rfl rfl) rfl ?_
                    refine TL.runG rfl rfl (pure_eql_bool Tryd.underlying4 rfl rfl) rfl ?_
                    refine TL.run1 (pure_pick_true rfl rfl) rfl ?_
                    refine TL.run1 (pure_move rfl) rfl ?_
                    first | refine TL.splitP 123 rfl (fun hg123 => ?_) (fun hg123 => ?_) | refine TL.split 123 rfl (fun hg123 => ?_) (fun hg123 => ?_)
                    · try dsimp only at hg123
                      refine TL.runG rfl rfl (pure_move rfl) rfl ?_
                      refine TL.runG rfl rfl (pure_move rfl) rfl ?_
                      refine TL.runG rfl rfl (pure_move rfl) rfl ?_
                      refine TL.runG rfl rfl (pure_call (RNext_spec (bnds (cls c)) a (bnds_pos _) (by omega)) (.cons rfl (.cons rfl .nil)) Tryd.call30) rfl ?_
                      refine TL.runG rfl rfl (pure_eql rfl rfl) rfl ?_
                      refine TL.run1 (pure_pick_true rfl rfl) rfl ?_
                      refine TL.run1 (pure_move rfl) rfl ?_
                      first | refine TL.splitP 130 rfl (fun hg130 => ?_) (fun hg130 => ?_) | refine TL.split 130 rfl (fun hg130 => ?_) (fun hg130 => ?_)
                      · try dsimp only at hg130
                        refine TL.runG rfl rfl (pure_move rfl) rfl ?_
                        refine TL.runG rfl rfl (pure_move rfl) rfl ?_
                        refine TL.runG rfl rfl (pure_move rfl) rfl ?_
                        refine TL.runG rfl rfl (pure_sub rfl rfl (mkI64 (by omega) (by omega))) rfl ?_
                        first | refine TL.runG rfl rfl (pure_call (RFloor_spec (bnds (cls c)) a (inc_bnds _) (bnds_zero _) (bnds_pos _) (by omega)) (.cons rfl (.cons rfl .nil)) Tryd.call29) rfl ?_ | refine TL.runG rfl rfl (pure_call (RFloor_spec (bnds (cls c)) (a - 1) (inc_bnds _) (bnds_zero _) (bnds_pos _) (by omega)) (.cons rfl (.cons rfl .nil)) Tryd.call29) rfl ?_
                        refine TL.runG rfl rfl (pure_eql rfl rfl) rfl ?_
                        refine TL.run1 (pure_pick_true rfl rfl) rfl ?_
                        refine TL.run1 (pure_move rfl) rfl ?_
                        first | refine TL.splitP 138 rfl (fun hg138 => ?_) (fun hg138 => ?_) | refine TL.split 138 rfl (fun hg138 => ?_) (fun hg138 => ?_)
                        · try dsimp only at hg138
                          refine TL.runG rfl rfl (pure_move rfl) rfl ?_
                          refine TL.runG rfl rfl (pure_move rfl) rfl ?_
                          refine TL.runG rfl rfl (pure_move rfl) rfl ?_
                          first | refine TL.runG rfl rfl (pure_call (RFloor_spec (bnds (cls c)) a (inc_bnds _) (bnds_zero _) (bnds_pos _) (by omega)) (.cons rfl (.cons rfl .nil)) Tryd.call29) rfl ?_ | refine TL.runG rfl rfl (pure_call (RFloor_spec (bnds (cls c)) (a - 1) (inc_bnds _) (bnds_zero _) (bnds_pos _) (by omega)) (.cons rfl (.cons rfl .nil)) Tryd.call29) rfl ?_
                          refine TL.runG rfl rfl (pure_eql rfl rfl) rfl ?_
                          refine TL.run1 (pure_pick_true rfl rfl) rfl ?_
                          refine TL.run1 (pure_assign rfl) rfl ?_
                          refine TL.cutEnd (by repeat (first | exact Same.refl _ _ | refine Same.put rfl ?_)) rfl ?_
                          first | (simp; done) | (simp_all; done) | grind
                        · try dsimp only at hg138
                          refine TL.passG rfl rfl rfl rfl ?_
                          refine TL.passG rfl rfl rfl rfl ?_
                          refine TL.passG rfl rfl rfl rfl ?_
                          refine TL.passG rfl rfl rfl rfl ?_
                          refine TL.passG rfl rfl rfl rfl ?_
                          refine TL.run1 (pure_pick_false rfl rfl) rfl ?_
                          refine TL.run1 (pure_assign rfl) rfl ?_
                          refine TL.cutEnd (by repeat (first | exact Same.refl _ _ | refine Same.put rfl ?_)) rfl ?_
                          first | (simp; done) | (simp_all; done) | grind
                      · try dsimp only at hg130
                        refine TL.passG rfl rfl rfl rfl ?_
                        refine TL.passG rfl rfl rfl rfl ?_
                        refine TL.passG rfl rfl rfl rfl ?_
                        refine TL.passG rfl rfl rfl rfl ?_
                        refine TL.passG rfl rfl rfl rfl ?_
                        refine TL.passG rfl rfl rfl rfl ?_
                        refine TL.run1 (pure_pick_false rfl rfl) rfl ?_
                        refine TL.run1 (pure_move rfl) rfl ?_
                        refine TL.passG rfl rfl rfl rfl ?_
                        refine TL.passG rfl rfl rfl rfl ?_
                        refine TL.passG rfl rfl rfl rfl ?_
                        refine TL.passG rfl rfl rfl rfl ?_
                        refine TL.passG rfl rfl rfl rfl ?_
                        refine TL.run1 (pure_pick_false rfl rfl) rfl ?_
                        refine TL.run1 (pure_assign rfl) rfl ?_
                        refine TL.cutEnd (by repeat (first | exact Same.refl _ _ | refine Same.put rfl ?_)) rfl ?_
                        first | (simp; done) | (simp_all; done) | grind
                    · try dsimp only at hg123
                      refine TL.passG rfl rfl rfl rfl ?_
                      refine TL.passG rfl rfl rfl rfl ?_
                      refine TL.passG rfl rfl rfl rfl ?_
                      refine TL.passG rfl rfl rfl rfl ?_
                      refine TL.passG rfl rfl rfl rfl ?_
                      refine TL.run1 (pure_pick_false rfl rfl) rfl ?_
                      refine TL.run1 (pure_move rfl) rfl ?_
                      refine TL.passG rfl rfl rfl rfl ?_
                      refine TL.passG rfl rfl rfl rfl ?_
                      refine TL.passG rfl rfl rfl rfl ?_
                      refine TL.passG rfl rfl rfl rfl ?_
                      refine TL.passG rfl rfl rfl rfl ?_
                      refine TL.passG rfl rfl rfl rfl ?_
                      refine TL.run1 (pure_pick_false rfl rfl) rfl ?_
                      refine TL.run1 (pure_move rfl) rfl ?_
                      refine TL.passG rfl rfl rfl rfl ?_
                      refine TL.passG rfl rfl rfl rfl ?_
                      refine TL.passG rfl rfl rfl rfl ?_
                      refine TL.passG rfl rfl rfl rfl ?_
                      refine TL.passG rfl rfl rfl rfl ?_
                      refine TL.run1 (pure_pick_false rfl rfl) rfl ?_
                      refine TL.run1 (pure_assign rfl) rfl ?_
                      refine TL.cutEnd (by repeat (first | exact Same.refl _ _ | refine Same.put rfl ?_)) rfl ?_
                      first | (simp; done) | (simp_all; done) | grind
                  · try dsimp only at hg114
                    refine TL.passG rfl rfl rfl rfl ?_
                    refine TL.passG rfl rfl rfl rfl ?_
                    refine TL.passG rfl rfl rfl rfl ?_
                    refine TL.passG rfl rfl rfl rfl ?_
                    refine TL.passG rfl rfl rfl rfl ?_
                    refine TL.passG rfl rfl rfl rfl ?_
                    refine TL.passG rfl rfl rfl rfl ?_
                    refine TL.run1 (pure_pick_false rfl rfl) rfl ?_
                    refine TL.run1 (pure_move rfl) rfl ?_
                    refine TL.passG rfl rfl rfl rfl ?_
                    refine TL.passG rfl rfl rfl rfl ?_
                    refine TL.passG rfl rfl rfl rfl ?_
                    refine TL.passG rfl rfl rfl rfl ?_
                    refine TL.passG rfl rfl rfl rfl ?_
                    refine TL.run1 (pure_pick_false rfl rfl) rfl ?_
                    refine TL.run1 (pure_move rfl) rfl ?_
                    refine TL.passG rfl rfl rfl rfl ?_
                    refine TL.passG rfl rfl rfl rfl ?_
                    refine TL.passG rfl rfl rfl rfl ?_
                    refine TL.passG rfl rfl rfl rfl ?_
                    refine TL.passG rfl rfl rfl rfl ?_
                    refine TL.passG rfl rfl rfl rfl ?_
                    refine TL.run1 (pure_pick_false rfl rfl) rfl ?_
                    refine TL.run1 (pure_move rfl) rfl ?_
                    refine TL.passG rfl rfl rfl rfl ?_
                    refine TL.passG rfl rfl rfl rfl ?_
                    refine TL.passG rfl rfl rfl rfl ?_
                    refine TL.passG rfl rfl rfl rfl ?_
                    refine TL.passG rfl rfl rfl rfl ?_
                    refine TL.run1 (pure_pick_false rfl rfl) rfl ?_
                    refine TL.run1 (pure_assign rfl) rfl ?_
                    refine TL.cutEnd (by repeat (first | exact Same.refl _ _ | refine Same.put rfl ?_)) rfl ?_
                    first | (simp; done) | (simp_all; done) | grind
                · try dsimp only at hg110
                  refine TL.passG rfl rfl rfl rfl ?_
                  refine TL.passG rfl rfl rfl rfl ?_
                  refine TL.run1 (pure_pick_false rfl rfl) rfl ?_
                  refine TL.run1 (pure_move rfl) rfl ?_
                  refine TL.passG rfl rfl rfl rfl ?_
                  refine TL.passG rfl rfl rfl rfl ?_
                  refine TL.passG rfl rfl rfl rfl ?_
                  refine TL.passG rfl rfl rfl rfl ?_
                  refine TL.passG rfl rfl rfl rfl ?_
                  refine TL.passG rfl rfl rfl rfl ?_
                  refine TL.passG rfl rfl rfl rfl ?_
                  refine TL.run1 (pure_pick_false rfl rfl) rfl ?_
                  refine TL.run1 (pure_move rfl) rfl ?_
                  refine TL.passG rfl rfl rfl rfl ?_
                  refine TL.passG rfl rfl rfl rfl ?_
                  refine TL.passG rfl rfl rfl rfl ?_
                  refine TL.passG rfl rfl rfl rfl ?_
                  refine TL.passG rfl rfl rfl rfl ?_
                  refine TL.run1 (pure_pick_false rfl rfl) rfl ?_
                  refine TL.run1 (pure_move rfl) rfl ?_
                  refine TL.passG rfl rfl rfl rfl ?_
                  refine TL.passG rfl rfl rfl rfl ?_
                  refine TL.passG rfl rfl rfl rfl ?_
                  refine TL.passG rfl rfl rfl rfl ?_
                  refine TL.passG rfl rfl rfl rfl ?_
                  refine TL.passG rfl rfl rfl rfl ?_
                  refine TL.run1 (pure_pick_false rfl rfl) rfl ?_
                  refine TL.run1 (pure_move rfl) rfl ?_
                  refine TL.passG rfl rfl rfl rfl ?_
                  refine TL.passG rfl rfl rfl rfl ?_
                  refine TL.passG rfl rfl rfl rfl ?_
                  refine TL.passG rfl rfl rfl rfl ?_
                  refine TL.passG rfl rfl rfl rfl ?_
                  refine TL.run1 (pure_pick_false rfl rfl) rfl ?_
                  refine TL.run1 (pure_assign rfl) rfl ?_
                  refine TL.cutEnd (by repeat (first | exact Same.refl _ _ | refine Same.put rfl ?_)) rfl ?_
                  first | (simp; done) | (simp_all; done) | grind
              · try dsimp only at hg106
                refine TL.passG rfl rfl rfl rfl ?_
                refine TL.passG rfl rfl rfl rfl ?_
                refine TL.run1 (pure_pick_false rfl rfl) rfl ?_
                refine TL.run1 (pure_move rfl) rfl ?_
                refine TL.passG rfl rfl rfl rfl ?_
                refine TL.passG rfl rfl rfl rfl ?_
                refine TL.run1 (pure_pick_false rfl rfl) rfl ?_
                refine TL.run1 (pure_move rfl) rfl ?_
                refine TL.passG rfl rfl rfl rfl ?_
                refine TL.passG rfl rfl rfl rfl ?_
                refine TL.passG rfl rfl rfl rfl ?_
                refine TL.passG rfl rfl rfl rfl ?_
                refine TL.passG rfl rfl rfl rfl ?_
                refine TL.passG rfl rfl rfl rfl ?_
                refine TL.passG rfl rfl rfl rfl ?_
                refine TL.run1 (pure_pick_false rfl rfl) rfl ?_
                refine TL.run1 (pure_move rfl) rfl ?_
                refine TL.passG rfl rfl rfl rfl ?_
                refine TL.passG rfl rfl rfl rfl ?_
                refine TL.passG rfl rfl rfl rfl ?_
                refine TL.passG rfl rfl rfl rfl ?_
                refine TL.passG rfl rfl rfl rfl ?_
                refine TL.run1 (pure_pick_false rfl rfl) rfl ?_
                refine TL.run1 (pure_move rfl) rfl ?_
                refine TL.passG rfl rfl rfl rfl ?_
                refine TL.passG rfl rfl rfl rfl ?_
                refine TL.passG rfl rfl rfl rfl ?_
                refine TL.passG rfl rfl rfl rfl ?_
                refine TL.passG rfl rfl rfl rfl ?_
                refine TL.passG rfl rfl rfl rfl ?_
                refine TL.run1 (pure_pick_false rfl rfl) rfl ?_
                refine TL.run1 (pure_move rfl) rfl ?_
                refine TL.passG rfl rfl rfl rfl ?_
                refine TL.passG rfl rfl rfl rfl ?_
                refine TL.passG rfl rfl rfl rfl ?_
                refine TL.passG rfl rfl rfl rfl ?_
                refine TL.passG rfl rfl rfl rfl ?_
                refine TL.run1 (pure_pick_false rfl rfl) rfl ?_
                refine TL.run1 (pure_assign rfl) rfl ?_
                refine TL.cutEnd (by repeat (first | exact Same.refl _ _ | refine Same.put rfl ?_)) rfl ?_
                first | (simp; done) | (simp_all; done) | grind
            · try dsimp only at hg102
              refine TL.passG rfl rfl rfl rfl ?_
              refine TL.passG rfl rfl rfl rfl ?_
              refine TL.run1 (pure_pick_false rfl rfl) rfl ?_
              refine TL.run1 (pure_move rfl) rfl ?_
              refine TL.passG rfl rfl rfl rfl ?_
              refine TL.passG rfl rfl rfl rfl ?_
              refine TL.run1 (pure_pick_false rfl rfl) rfl ?_
              refine TL.run1 (pure_move rfl) rfl ?_
              refine TL.passG rfl rfl rfl rfl ?_
              refine TL.passG rfl rfl rfl rfl ?_
              refine TL.run1 (pure_pick_false rfl rfl) rfl ?_
              refine TL.run1 (pure_move rfl) rfl ?_
              refine TL.passG rfl rfl rfl rfl ?_
              refine TL.passG rfl rfl rfl rfl ?_
              refine TL.passG rfl rfl rfl rfl ?_
              refine TL.passG rfl rfl rfl rfl ?_
              refine TL.passG rfl rfl rfl rfl ?_
              refine TL.passG rfl rfl rfl rfl ?_
              refine TL.passG rfl rfl rfl rfl ?_
              refine TL.run1 (pure_pick_false rfl rfl) rfl ?_
              refine TL.run1 (pure_move rfl) rfl ?_
              refine TL.passG rfl rfl rfl rfl ?_
              refine TL.passG rfl rfl rfl rfl ?_
              refine TL.passG rfl rfl rfl rfl ?_
              refine TL.passG rfl rfl rfl rfl ?_
              refine TL.passG rfl rfl rfl rfl ?_
              refine TL.run1 (pure_pick_false rfl rfl) rfl ?_
              refine TL.run1 (pure_move rfl) rfl ?_
              refine TL.passG rfl rfl rfl rfl ?_
              refine TL.passG rfl rfl rfl rfl ?_
              refine TL.passG rfl rfl rfl rfl ?_
              refine TL.passG rfl rfl rfl rfl ?_
              refine TL.passG rfl rfl rfl rfl ?_
              refine TL.passG rfl rfl rfl rfl ?_
              refine TL.run1 (pure_pick_false rfl rfl) rfl ?_
              refine TL.run1 (pure_move rfl) rfl ?_
              refine TL.passG rfl rfl rfl rfl ?_
              refine TL.passG rfl rfl rfl rfl ?_
              refine TL.passG rfl rfl rfl rfl ?_
              refine TL.passG rfl rfl rfl rfl ?_
              refine TL.passG rfl rfl rfl rfl ?_
              refine TL.run1 (pure_pick_false rfl rfl) rfl ?_
              refine TL.run1 (pure_assign rfl) rfl ?_
              refine TL.cutEnd (by repeat (first | exact Same.refl _ _ | refine Same.put rfl ?_)) rfl ?_
              first | (simp; done) | (simp_all; done) | grind
          refine TC.ret ?_
          exact ret_bool rfl (by simp)
end Go.Ob
