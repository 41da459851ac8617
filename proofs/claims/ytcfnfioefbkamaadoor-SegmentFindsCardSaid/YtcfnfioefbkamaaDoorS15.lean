import Derived.Test.YtcfnfioefbkamaaDoorS13
set_option linter.unusedVariables false
set_option linter.unusedSimpArgs false
namespace Go.Ob
open Go.Proofs
set_option maxHeartbeats 2000000 in
set_option maxRecDepth 100000 in
theorem SegmentFinds_spec (s : ByteArray) (u : Int) : Fun Tryd.prog 11 [.v (.string s), .v (.int .i64 u)] (.v (.bool true)) := by
  refine Fun.enter (n := 206) (rs := [.tmp 4]) Tryd.func11 rfl Tryd.ntmps11 Tryd.results11 rfl (fun w F => ?_); refine TC.seq ?_; refine TC.region ?_; refine TL.run1 (pure_assign rfl) rfl ?_; refine TL.nil' ?_; refine TC.seq ?_; refine TC.region ?_; refine TL.run1 (pure_move rfl) rfl ?_; refine TL.run1 (pure_call (short_spec s) (.cons rfl .nil) Tryd.call12) rfl ?_; refine TL.run1 (pure_assign rfl) rfl ?_; refine TL.nil' ?_; refine TC.seq ?_
  obtain ⟨c, hcd⟩ : ∃ c, shortS s = c := ⟨_, rfl⟩
  rw [hcd]
  have hcs : c.size ≤ 240 := hcd ▸ shortS_size s
  refine TC.region ?_; (iterate 2 refine TL.run1 (pure_move rfl) rfl ?_); refine TL.run1 (pure_call (SAt_spec c u (by omega)) (.cons rfl (.cons rfl .nil)) Tryd.call29) rfl ?_; refine TL.run1 (pure_move rfl) rfl ?_; (iterate 2 refine TL.run1 (pure_extract rfl rfl) rfl ?_); refine TL.alloc Ty.zero32 rfl (fun g5 => ?_); refine TL.store rfl rfl (.agg _) Tryd.sizeOf32 rfl (by repeat (first | exact UpdR.here _ | apply UpdR.there)) (by repeat (first | exact PutR.nil _ | apply PutR.here | apply PutR.skip)) ?_; refine TL.run1 (pure_assign rfl) rfl ?_; refine TL.nil' ?_; refine TC.seq ?_; refine TC.region ?_; (iterate 2 refine TL.run1 (pure_move rfl) rfl ?_); refine TL.run1 (pure_call (SNext_spec c u (by omega)) (.cons rfl (.cons rfl .nil)) Tryd.call27) rfl ?_; refine TL.run1 (pure_move rfl) rfl ?_; (iterate 2 refine TL.run1 (pure_extract rfl rfl) rfl ?_); (iterate 2 refine TL.run1 (pure_assign rfl) rfl ?_); refine TL.nil' ?_; refine TC.seq ?_; refine TC.region ?_; (iterate 2 refine TL.run1 (pure_move rfl) rfl ?_); refine TL.run1 (pure_call (SPrev_spec c u (by omega)) (.cons rfl (.cons rfl .nil)) Tryd.call28) rfl ?_; refine TL.run1 (pure_move rfl) rfl ?_; (iterate 2 refine TL.run1 (pure_extract rfl rfl) rfl ?_); (iterate 2 refine TL.run1 (pure_assign rfl) rfl ?_); refine TL.nil' ?_; refine TC.seq ?_; refine TC.region ?_; refine TL.run1 (pure_move rfl) rfl ?_; refine TL.run1 (pure_call (R3Tokens_spec c (by omega)) (.cons rfl .nil) Tryd.call14) rfl ?_; refine TL.run1 (pure_move rfl) rfl ?_; (iterate 2 refine TL.run1 (pure_extract rfl rfl) rfl ?_); (iterate 2 refine TL.run1 (pure_assign rfl) rfl ?_); refine TL.nil' ?_; refine TC.seq ?_; refine TC.regionCut [44, 45, 46, 47, 48, 49] 49 (okS c = false) ?_ ?_
  · skip
    refine TL.run1 (pure_call (known_spec) .nil Tryd.call15) rfl ?_; refine TL.run1 (pure_not rfl) rfl ?_; refine TL.run1 (pure_move rfl) rfl ?_; refine TL.split 46 rfl (fun hg46 => ?_) (fun hg46 => ?_)
    · try dsimp only at hg46
      (iterate 2 refine TL.passG rfl rfl rfl rfl ?_); refine TL.run1 (pure_pick_true rfl rfl) rfl ?_; refine TL.cutEnd (by repeat (first | exact Same.refl _ _ | refine Same.put rfl ?_)) rfl ?_
      first | (simp_all; done) | grind
    · try dsimp only at hg46
      refine TL.runG rfl rfl (pure_move rfl) rfl ?_; refine TL.runG rfl rfl (pure_not rfl) rfl ?_; refine TL.run1 (pure_pick_false rfl rfl) rfl ?_; refine TL.cutEnd (by repeat (first | exact Same.refl _ _ | refine Same.put rfl ?_)) rfl ?_
      first | (simp_all; done) | grind
  refine TC.condD rfl (fun hc49 => ?_) (fun hc49 => ?_)
  · try dsimp only at hc49
    have hok : okS c = false := hc49
    have e1 := tq_bad hok u
    have e2 := (stE_bad hok u).1
    rw [e1.1, e2]
    refine TC.regionCut [50, 51, 52, 53, 54, 55, 56, 57, 58, 59, 60, 61, 62, 4] 4 (True) ?_ ?_
    · skip
      refine TL.run1 (pure_call (known_spec) .nil Tryd.call15) rfl ?_; refine TL.run1 (pure_move rfl) rfl ?_; refine TL.split 51 rfl (fun hg51 => ?_) (fun hg51 => ?_)
      · try dsimp only at hg51
        refine TL.runG rfl rfl (pure_move rfl) rfl ?_; refine TL.runG rfl rfl (pure_eql rfl rfl) rfl ?_; refine TL.run1 (pure_pick_true rfl rfl) rfl ?_; refine TL.run1 (pure_move rfl) rfl ?_; refine TL.splitP 55 rfl (fun hg55 => ?_) (fun hg55 => ?_)
        · try dsimp only at hg55
          refine TL.runG rfl rfl (pure_move rfl) rfl ?_; refine TL.runG rfl rfl (pure_eql rfl rfl) rfl ?_; refine TL.run1 (pure_pick_true rfl rfl) rfl ?_; refine TL.run1 (pure_move rfl) rfl ?_; refine TL.splitP 59 rfl (fun hg59 => ?_) (fun hg59 => ?_)
          · try dsimp only at hg59
            refine TL.runG rfl rfl (pure_move rfl) rfl ?_; refine TL.runG rfl rfl (pure_eql rfl rfl) rfl ?_; refine TL.run1 (pure_pick_true rfl rfl) rfl ?_; refine TL.run1 (pure_assign rfl) rfl ?_; refine TL.cutEnd (by repeat (first | exact Same.refl _ _ | refine Same.put rfl ?_)) rfl ?_
            first | (simp; done) | (simp_all; done)
          · try dsimp only at hg59
            (iterate 2 refine TL.passG rfl rfl rfl rfl ?_); refine TL.run1 (pure_pick_false rfl rfl) rfl ?_; refine TL.run1 (pure_assign rfl) rfl ?_; refine TL.cutEnd (by repeat (first | exact Same.refl _ _ | refine Same.put rfl ?_)) rfl ?_
            first | (simp; done) | (simp_all; done)
        · try dsimp only at hg55
          (iterate 2 refine TL.passG rfl rfl rfl rfl ?_); refine TL.run1 (pure_pick_false rfl rfl) rfl ?_; refine TL.run1 (pure_move rfl) rfl ?_; (iterate 2 refine TL.passG rfl rfl rfl rfl ?_); refine TL.run1 (pure_pick_false rfl rfl) rfl ?_; refine TL.run1 (pure_assign rfl) rfl ?_; refine TL.cutEnd (by repeat (first | exact Same.refl _ _ | refine Same.put rfl ?_)) rfl ?_
          first | (simp; done) | (simp_all; done)
      · try dsimp only at hg51
        (iterate 2 refine TL.passG rfl rfl rfl rfl ?_); refine TL.run1 (pure_pick_false rfl rfl) rfl ?_; refine TL.run1 (pure_move rfl) rfl ?_; (iterate 2 refine TL.passG rfl rfl rfl rfl ?_); refine TL.run1 (pure_pick_false rfl rfl) rfl ?_; refine TL.run1 (pure_move rfl) rfl ?_; (iterate 2 refine TL.passG rfl rfl rfl rfl ?_); refine TL.run1 (pure_pick_false rfl rfl) rfl ?_; refine TL.run1 (pure_assign rfl) rfl ?_; refine TL.cutEnd (by repeat (first | exact Same.refl _ _ | refine Same.put rfl ?_)) rfl ?_
        first | (simp; done) | (simp_all; done)
    refine TC.ret ?_; refine then_ret ?_
    exact ret_bool rfl (by simp)
  · try dsimp only at hc49
    have hok : okS c = true := by (cases h : okS c with | true => rfl | false => exact absurd h hc49)
    have hto := tok_ok hok
    have htv : tokV c = encTk (scL c) (bnds (cls c)) := by unfold tokV; rw [if_pos hok]
    rw [htv]
    have htl := encTk_len (scL c) (bnds (cls c))
    have hntl : (nT (scL c)) ≤ 1000 := by (have h1 := nT_le (scL c); rw [scL_len] at h1; have h2 := cAll_len_le (cls c); rw [cls_len] at h2; have := nR_le c; omega)
    have hnr : nR c ≤ 240 := by have := nR_le c; omega
    have hz0 : (tokZ (scL c) (bnds (cls c)) (aI (scL c) (bnds (cls c)) u 0)) = (0, 0, 0) := by (unfold tokZ; rw [aI, if_neg (Nat.lt_irrefl _)])
    refine TC.skip' ?_; refine TC.seq ?_; refine TC.region ?_; refine TL.run1 (pure_move rfl) rfl ?_; refine TL.run1 (pure_call (size_spec c hok (by omega)) (.cons rfl .nil) Tryd.call20) rfl ?_; refine TL.run1 (pure_assign rfl) rfl ?_; refine TL.nil' ?_; refine TC.seq ?_; refine TC.regionCut [65, 66, 67, 68, 69, 70, 71] 71 (¬ (0 ≤ u ∧ u ≤ (nR c : Int))) ?_ ?_
    · skip
      refine TL.run1 (pure_move rfl) rfl ?_; refine TL.run1 (pure_lss rfl rfl) rfl ?_; refine TL.run1 (pure_move rfl) rfl ?_; refine TL.splitP 67 rfl (fun hg67 => ?_) (fun hg67 => ?_)
      · try dsimp only at hg67
        (iterate 3 refine TL.passG rfl rfl rfl rfl ?_); refine TL.run1 (pure_pick_true rfl rfl) rfl ?_; refine TL.cutEnd (by repeat (first | exact Same.refl _ _ | refine Same.put rfl ?_)) rfl ?_
        first | (simp only [decide_eq_true_eq, Bool.false_eq_true, false_iff, true_iff, iff_true, iff_false, Bool.not_eq_true]; omega) | (simp_all; done) | (simp_all; omega) | grind
      · try dsimp only at hg67
        (iterate 2 refine TL.runG rfl rfl (pure_move rfl) rfl ?_); refine TL.runG rfl rfl (pure_gtr rfl rfl) rfl ?_; refine TL.run1 (pure_pick_false rfl rfl) rfl ?_; refine TL.cutEnd (by repeat (first | exact Same.refl _ _ | refine Same.put rfl ?_)) rfl ?_
        first | (simp only [decide_eq_true_eq, Bool.false_eq_true, false_iff, true_iff, iff_true, iff_false, Bool.not_eq_true]; omega) | (simp_all; done) | (simp_all; omega) | grind
    refine TC.condD rfl (fun hc71 => ?_) (fun hc71 => ?_)
    · try dsimp only at hc71
      obtain ⟨e1, e2, _⟩ := tq_out hok (show u < 0 ∨ (nR c : Int) ≤ u by omega)
      have e3_ := (stE_out hok hc71).1
      have e4 := st_non (s := c) (u := u) (by rw [e3_]; decide)
      rw [e1, e2, e3_, e4.1, e4.2]
      refine TC.regionCut [72, 73, 74, 75, 76, 77, 78, 79, 80, 81, 82, 83, 84, 85, 86, 87, 88, 89, 90, 91, 92, 93, 94, 4] 4 (True) ?_ ?_
      · skip
        refine TL.run1 (pure_move rfl) rfl ?_; refine TL.run1 (pure_eql rfl rfl) rfl ?_; refine TL.run1 (pure_move rfl) rfl ?_; refine TL.splitP 74 rfl (fun hg74 => ?_) (fun hg74 => ?_)
        · try dsimp only at hg74
          refine TL.runG rfl rfl (pure_move rfl) rfl ?_; refine TL.runG rfl rfl (pure_eql rfl rfl) rfl ?_; refine TL.run1 (pure_pick_true rfl rfl) rfl ?_; refine TL.run1 (pure_move rfl) rfl ?_; refine TL.splitP 78 rfl (fun hg78 => ?_) (fun hg78 => ?_)
          · try dsimp only at hg78
            refine TL.runG rfl rfl (pure_move rfl) rfl ?_; refine TL.runG rfl rfl (pure_eql rfl rfl) rfl ?_; refine TL.run1 (pure_pick_true rfl rfl) rfl ?_; refine TL.run1 (pure_move rfl) rfl ?_; refine TL.splitP 82 rfl (fun hg82 => ?_) (fun hg82 => ?_)
            · try dsimp only at hg82
              refine TL.runG rfl rfl (pure_load_own Ty.agg32 rfl (by repeat (first | exact List.Mem.head _ | apply List.Mem.tail)) (by repeat (first | exact DropR.zero _ | apply DropR.succ)) (.succ (.succ (.succ (.zero _))))) rfl ?_; refine TL.runG rfl rfl (pure_build Ty.pl32 Ty.zero32 (.nil _)) rfl ?_; refine TL.runG rfl rfl (pure_eql_agg Ty.eq32 rfl rfl (.cons (.cons (.cons .nil))) (.cons (.cons (.cons .nil))) rfl rfl) rfl ?_; refine TL.run1 (pure_pick_true rfl rfl) rfl ?_; refine TL.run1 (pure_move rfl) rfl ?_; refine TL.splitP 87 rfl (fun hg87 => ?_) (fun hg87 => ?_)
              · try dsimp only at hg87
                refine TL.runG rfl rfl (pure_move rfl) rfl ?_; refine TL.runG rfl rfl (pure_eql rfl rfl) rfl ?_; refine TL.run1 (pure_pick_true rfl rfl) rfl ?_; refine TL.run1 (pure_move rfl) rfl ?_; refine TL.splitP 91 rfl (fun hg91 => ?_) (fun hg91 => ?_)
                · try dsimp only at hg91
                  refine TL.runG rfl rfl (pure_move rfl) rfl ?_; refine TL.runG rfl rfl (pure_eql rfl rfl) rfl ?_; refine TL.run1 (pure_pick_true rfl rfl) rfl ?_; refine TL.run1 (pure_assign rfl) rfl ?_; refine TL.cutEnd (by repeat (first | exact Same.refl _ _ | refine Same.put rfl ?_)) rfl ?_
                  first | (simp; done) | (simp_all; done)
                · try dsimp only at hg91
                  (iterate 2 refine TL.passG rfl rfl rfl rfl ?_); refine TL.run1 (pure_pick_false rfl rfl) rfl ?_; refine TL.run1 (pure_assign rfl) rfl ?_; refine TL.cutEnd (by repeat (first | exact Same.refl _ _ | refine Same.put rfl ?_)) rfl ?_
                  first | (simp; done) | (simp_all; done)
              · try dsimp only at hg87
                (iterate 2 refine TL.passG rfl rfl rfl rfl ?_); refine TL.run1 (pure_pick_false rfl rfl) rfl ?_; refine TL.run1 (pure_move rfl) rfl ?_; (iterate 2 refine TL.passG rfl rfl rfl rfl ?_); refine TL.run1 (pure_pick_false rfl rfl) rfl ?_; refine TL.run1 (pure_assign rfl) rfl ?_; refine TL.cutEnd (by repeat (first | exact Same.refl _ _ | refine Same.put rfl ?_)) rfl ?_
                first | (simp; done) | (simp_all; done)
            · try dsimp only at hg82
              (iterate 3 refine TL.passG rfl rfl rfl rfl ?_); refine TL.run1 (pure_pick_false rfl rfl) rfl ?_; refine TL.run1 (pure_move rfl) rfl ?_; (iterate 2 refine TL.passG rfl rfl rfl rfl ?_); refine TL.run1 (pure_pick_false rfl rfl) rfl ?_; refine TL.run1 (pure_move rfl) rfl ?_; (iterate 2 refine TL.passG rfl rfl rfl rfl ?_); refine TL.run1 (pure_pick_false rfl rfl) rfl ?_; refine TL.run1 (pure_assign rfl) rfl ?_; refine TL.cutEnd (by repeat (first | exact Same.refl _ _ | refine Same.put rfl ?_)) rfl ?_
              first | (simp; done) | (simp_all; done)
          · try dsimp only at hg78
            (iterate 2 refine TL.passG rfl rfl rfl rfl ?_); refine TL.run1 (pure_pick_false rfl rfl) rfl ?_; refine TL.run1 (pure_move rfl) rfl ?_; (iterate 3 refine TL.passG rfl rfl rfl rfl ?_); refine TL.run1 (pure_pick_false rfl rfl) rfl ?_; refine TL.run1 (pure_move rfl) rfl ?_; (iterate 2 refine TL.passG rfl rfl rfl rfl ?_); refine TL.run1 (pure_pick_false rfl rfl) rfl ?_; refine TL.run1 (pure_move rfl) rfl ?_; (iterate 2 refine TL.passG rfl rfl rfl rfl ?_); refine TL.run1 (pure_pick_false rfl rfl) rfl ?_; refine TL.run1 (pure_assign rfl) rfl ?_; refine TL.cutEnd (by repeat (first | exact Same.refl _ _ | refine Same.put rfl ?_)) rfl ?_
            first | (simp; done) | (simp_all; done)
        · try dsimp only at hg74
          (iterate 2 refine TL.passG rfl rfl rfl rfl ?_); refine TL.run1 (pure_pick_false rfl rfl) rfl ?_; refine TL.run1 (pure_move rfl) rfl ?_; (iterate 2 refine TL.passG rfl rfl rfl rfl ?_); refine TL.run1 (pure_pick_false rfl rfl) rfl ?_; refine TL.run1 (pure_move rfl) rfl ?_; (iterate 3 refine TL.passG rfl rfl rfl rfl ?_); refine TL.run1 (pure_pick_false rfl rfl) rfl ?_; refine TL.run1 (pure_move rfl) rfl ?_; (iterate 2 refine TL.passG rfl rfl rfl rfl ?_); refine TL.run1 (pure_pick_false rfl rfl) rfl ?_; refine TL.run1 (pure_move rfl) rfl ?_; (iterate 2 refine TL.passG rfl rfl rfl rfl ?_); refine TL.run1 (pure_pick_false rfl rfl) rfl ?_; refine TL.run1 (pure_assign rfl) rfl ?_; refine TL.cutEnd (by repeat (first | exact Same.refl _ _ | refine Same.put rfl ?_)) rfl ?_
          first | (simp; done) | (simp_all; done)
      refine TC.ret ?_; refine then_ret ?_
      exact ret_bool rfl (by simp)
    · try dsimp only at hc71
      have hu : 0 ≤ u ∧ u ≤ (nR c : Int) := Classical.not_not.1 hc71
      refine TC.skip' ?_; refine TC.seq ?_; refine TC.region ?_; refine TL.run1 (pure_move rfl) rfl ?_; (iterate 2 refine TL.run1 (pure_assign rfl) rfl ?_); refine TL.nil' ?_; refine TC.seq ?_; refine TC.region ?_; refine TL.alloc Ty.zero32 rfl (fun g16 => ?_); refine TL.nil' ?_; (iterate 2 refine TC.seq ?_); refine TC.region ?_; refine TL.run1 (pure_move rfl) rfl ?_; refine TL.run1 (pure_len Ty.sl27 rfl) rfl ?_; refine TL.run1 (pure_sub rfl rfl (mkI64 (by omega) (by omega))) rfl ?_; refine TL.run1 (pure_assign rfl) rfl ?_; refine TL.nil' ?_; refine TC.block ?_; refine TC.loopX (X := Nat) (fun m => [(1, .v (.int .i64 u)), (5, .v (.pointer (some ⟨g5, 0, none⟩))), (6, .v (.int .i64 (tqE c u))), (7, .v (.int .i64 (nxV c u))), (8, .v (.int .i64 (stE c u))), (9, .v (.int .i64 (pvV c u))), (10, .v (.int .i64 (stE c u))), (11, .sl 3 (encTk (scL c) (bnds (cls c)))), (13, .v (.int .i64 (nR c : Nat))), (14, .v (.int .i64 (nf (scL c) (bnds (cls c)) u (nR c) m))), (15, .v (.int .i64 (lp (scL c) (bnds (cls c)) u m))), (16, .v (.pointer (some ⟨g16, 0, none⟩))), (17, .v (.int .i64 (((nT (scL c)) : Int) - 1 - m)))]) (fun m => [.box g16 32 [.v (.int .i64 (tokZ (scL c) (bnds (cls c)) (aI (scL c) (bnds (cls c)) u m)).1), .v (.int .i64 (tokZ (scL c) (bnds (cls c)) (aI (scL c) (bnds (cls c)) u m)).2.1), .v (.int .i64 (tokZ (scL c) (bnds (cls c)) (aI (scL c) (bnds (cls c)) u m)).2.2)], .box g5 32 [.v (.int .i64 (tqX c u).1), .v (.int .i64 (tqX c u).2.1), .v (.int .i64 (tqX c u).2.2)]]) (fun m => (m ≤ (nT (scL c)))) (fun m => (nT (scL c)) - m) (0) ⟨by (try dsimp only); rw [show (((nT (scL c)) : Int) - 1 - ((0 : Nat) : Int)) = ((encTk (scL c) (bnds (cls c))).length : Int) - 1 by omega]; repeat (first | exact Agree.nil | refine Agree.cons rfl ?_), by (rw [hz0]); repeat (first | exact List.nil_sublist _ | exact List.Sublist.refl _ | apply List.Sublist.cons_cons | apply List.Sublist.cons)⟩ ?_ ?_
      · skip
        exact Nat.zero_le _
      intro m
      intro h1
      show TC _ _ _ (Env.of [(1, .v (.int .i64 u)), (5, .v (.pointer (some ⟨g5, 0, none⟩))), (6, .v (.int .i64 (tqE c u))), (7, .v (.int .i64 (nxV c u))), (8, .v (.int .i64 (stE c u))), (9, .v (.int .i64 (pvV c u))), (10, .v (.int .i64 (stE c u))), (11, .sl 3 (encTk (scL c) (bnds (cls c)))), (13, .v (.int .i64 (nR c : Nat))), (14, .v (.int .i64 (nf (scL c) (bnds (cls c)) u (nR c) m))), (15, .v (.int .i64 (lp (scL c) (bnds (cls c)) u m))), (16, .v (.pointer (some ⟨g16, 0, none⟩))), (17, .v (.int .i64 (((nT (scL c)) : Int) - 1 - m)))]) [.box g16 32 [.v (.int .i64 (tokZ (scL c) (bnds (cls c)) (aI (scL c) (bnds (cls c)) u m)).1), .v (.int .i64 (tokZ (scL c) (bnds (cls c)) (aI (scL c) (bnds (cls c)) u m)).2.1), .v (.int .i64 (tokZ (scL c) (bnds (cls c)) (aI (scL c) (bnds (cls c)) u m)).2.2)], .box g5 32 [.v (.int .i64 (tqX c u).1), .v (.int .i64 (tqX c u).2.1), .v (.int .i64 (tqX c u).2.2)]]
      (iterate 2 refine TC.seq ?_); refine TC.region ?_; refine TL.run1 (pure_move rfl) rfl ?_; refine TL.run1 (pure_geq rfl rfl) rfl ?_; refine TL.nil' ?_; refine TC.condD rfl (fun hc100 => ?_) (fun hc100 => ?_)
      · try dsimp only at hc100
        refine TC.skip' ?_; refine TC.seq ?_; refine TC.block ?_; refine TC.seq ?_
        have hjn : ((nT (scL c)) - 1 - m) < (nT (scL c)) := by omega
        have hrow : (encTk (scL c) (bnds (cls c)))[(((nT (scL c)) : Int) - 1 - m).toNat]? = some [.v (.int .i64 (kT (scL c) ((nT (scL c)) - 1 - m))), .v (.int .i64 (fT (scL c) (bnds (cls c)) ((nT (scL c)) - 1 - m))), .v (.int .i64 (fT (scL c) (bnds (cls c)) (((nT (scL c)) - 1 - m) + 1)))] := by (rw [show (((nT (scL c)) : Int) - 1 - m) = ((((nT (scL c)) - 1 - m) : Nat) : Int) by omega]; exact tkr (scL c) (bnds (cls c)) ((nT (scL c)) - 1 - m) hjn)
        refine TC.regionCut [103, 104, 105, 106, 107, 108, 109, 110, 111, 112, 113, 114, 115, 116, 117, 118] 118 (hitT (scL c) (bnds (cls c)) u ((nT (scL c)) - 1 - m)) ?_ ?_
        · skip
          (iterate 2 refine TL.run1 (pure_move rfl) rfl ?_); refine TL.run1 (pure_indexAddr Ty.sl27 rfl rfl (by omega) hrow (List.cons_ne_nil _ _)) rfl ?_; refine TL.run1 (pure_fieldAddr Ty.f33_1 rfl (.succ (.zero _)) (List.cons_ne_nil _ _)) rfl ?_; refine TL.run1 (pure_load1 Ty.one3 rfl) rfl ?_; refine TL.run1 (pure_move rfl) rfl ?_; refine TL.run1 (pure_leq rfl rfl) rfl ?_; refine TL.run1 (pure_move rfl) rfl ?_; refine TL.splitP 110 rfl (fun hg110 => ?_) (fun hg110 => ?_)
          · try dsimp only at hg110
            (iterate 3 refine TL.runG rfl rfl (pure_move rfl) rfl ?_); refine TL.runG rfl rfl (pure_indexAddr Ty.sl27 rfl rfl (by omega) hrow (List.cons_ne_nil _ _)) rfl ?_; refine TL.runG rfl rfl (pure_fieldAddr Ty.f33_2 rfl (.succ (.succ (.zero _))) (List.cons_ne_nil _ _)) rfl ?_; refine TL.runG rfl rfl (pure_load1 Ty.one3 rfl) rfl ?_; refine TL.runG rfl rfl (pure_lss rfl rfl) rfl ?_; refine TL.run1 (pure_pick_true rfl rfl) rfl ?_; refine TL.cutEnd (by repeat (first | exact Same.refl _ _ | refine Same.put rfl ?_)) rfl ?_
            first | (simp only [decide_eq_true_eq]; unfold hitT; omega) | (simp; unfold hitT; omega)
          · try dsimp only at hg110
            (iterate 7 refine TL.passG rfl rfl rfl rfl ?_); refine TL.run1 (pure_pick_false rfl rfl) rfl ?_; refine TL.cutEnd (by repeat (first | exact Same.refl _ _ | refine Same.put rfl ?_)) rfl ?_
            first | (simp only [decide_eq_true_eq]; unfold hitT; omega) | (simp; unfold hitT; omega)
        refine TC.condD rfl (fun hc118 => ?_) (fun hc118 => ?_)
        · try dsimp only at hc118
          refine TC.drawTailN 16 Ty.follows (by kernel_rfl) (by kernel_rfl) ?_
          simp only [List.take_succ_cons, List.take_zero, List.drop_succ_cons, List.drop_zero]
          (iterate 2 refine TD.run1 (pure_move rfl) rfl ?_); refine TD.run1 (pure_indexAddr Ty.sl27 rfl rfl (by omega) hrow (List.cons_ne_nil _ _)) rfl ?_; refine TD.run1 (pure_fieldAddr Ty.f33_0 rfl (.zero _) (List.cons_ne_nil _ _)) rfl ?_; refine TD.run1 (pure_load1 Ty.one3 rfl) rfl ?_; (iterate 2 refine TD.run1 (pure_move rfl) rfl ?_); refine TD.run1 (pure_indexAddr Ty.sl27 rfl rfl (by omega) hrow (List.cons_ne_nil _ _)) rfl ?_; refine TD.run1 (pure_fieldAddr Ty.f33_1 rfl (.succ (.zero _)) (List.cons_ne_nil _ _)) rfl ?_; refine TD.run1 (pure_load1 Ty.one3 rfl) rfl ?_; (iterate 2 refine TD.run1 (pure_move rfl) rfl ?_); refine TD.run1 (pure_indexAddr Ty.sl27 rfl rfl (by omega) hrow (List.cons_ne_nil _ _)) rfl ?_; refine TD.run1 (pure_fieldAddr Ty.f33_2 rfl (.succ (.succ (.zero _))) (List.cons_ne_nil _ _)) rfl ?_; refine TD.run1 (pure_load1 Ty.one3 rfl) rfl ?_; refine TD.run1 (pure_build3 Ty.pl32 Ty.zero32 rfl rfl rfl) rfl ?_; refine TD.nil ?_
          show TL _ _ _ _ _ _
          refine TL.store rfl rfl (.agg _) Tryd.sizeOf32 rfl (by repeat (first | exact UpdR.here _ | apply UpdR.there)) (by repeat (first | exact PutR.nil _ | apply PutR.here | apply PutR.skip)) ?_; refine TL.nil' ?_; refine TC.seq ?_; refine TC.regionCut [135, 136, 137, 138, 139, 140, 141, 142, 143, 144, 145, 146, 147, 148, 149] 149 ((kT (scL c) ((nT (scL c)) - 1 - m)) ≠ 3 ∧ u < (fT (scL c) (bnds (cls c)) ((nT (scL c)) - 1 - m))) ?_ ?_
          · skip
            (iterate 2 refine TL.run1 (pure_move rfl) rfl ?_); refine TL.run1 (pure_indexAddr Ty.sl27 rfl rfl (by omega) hrow (List.cons_ne_nil _ _)) rfl ?_; refine TL.run1 (pure_fieldAddr Ty.f33_0 rfl (.zero _) (List.cons_ne_nil _ _)) rfl ?_; refine TL.run1 (pure_load1 Ty.one3 rfl) rfl ?_; refine TL.run1 (pure_neq rfl rfl) rfl ?_; refine TL.run1 (pure_move rfl) rfl ?_; refine TL.splitP 141 rfl (fun hg141 => ?_) (fun hg141 => ?_)
            · try dsimp only at hg141
              (iterate 2 refine TL.runG rfl rfl (pure_move rfl) rfl ?_); refine TL.runG rfl rfl (pure_indexAddr Ty.sl27 rfl rfl (by omega) hrow (List.cons_ne_nil _ _)) rfl ?_; refine TL.runG rfl rfl (pure_fieldAddr Ty.f33_1 rfl (.succ (.zero _)) (List.cons_ne_nil _ _)) rfl ?_; refine TL.runG rfl rfl (pure_load1 Ty.one3 rfl) rfl ?_; refine TL.runG rfl rfl (pure_move rfl) rfl ?_; refine TL.runG rfl rfl (pure_gtr rfl rfl) rfl ?_; refine TL.run1 (pure_pick_true rfl rfl) rfl ?_; refine TL.cutEnd (by repeat (first | exact Same.refl _ _ | refine Same.put rfl ?_)) rfl ?_
              first | (simp only [decide_eq_true_eq]; omega) | (simp; omega) | (simp_all; done) | (simp_all; omega)
            · try dsimp only at hg141
              (iterate 7 refine TL.passG rfl rfl rfl rfl ?_); refine TL.run1 (pure_pick_false rfl rfl) rfl ?_; refine TL.cutEnd (by repeat (first | exact Same.refl _ _ | refine Same.put rfl ?_)) rfl ?_
              first | (simp only [decide_eq_true_eq]; omega) | (simp; omega) | (simp_all; done) | (simp_all; omega)
          refine TC.condD rfl (fun hc149 => ?_) (fun hc149 => ?_)
          · try dsimp only at hc149
            refine TC.region ?_; (iterate 2 refine TL.run1 (pure_move rfl) rfl ?_); refine TL.run1 (pure_indexAddr Ty.sl27 rfl rfl (by omega) hrow (List.cons_ne_nil _ _)) rfl ?_; refine TL.run1 (pure_fieldAddr Ty.f33_1 rfl (.succ (.zero _)) (List.cons_ne_nil _ _)) rfl ?_; refine TL.run1 (pure_load1 Ty.one3 rfl) rfl ?_; refine TL.run1 (pure_assign rfl) rfl ?_; refine TL.nil' ?_; refine TC.regionCut [155, 156, 157, 158, 159, 160, 161, 162, 163, 164, 165, 166, 167, 168, 169] 169 ((kT (scL c) ((nT (scL c)) - 1 - m)) ≠ 3 ∧ (fT (scL c) (bnds (cls c)) ((nT (scL c)) - 1 - m)) < u) ?_ ?_
            · skip
              (iterate 2 refine TL.run1 (pure_move rfl) rfl ?_); refine TL.run1 (pure_indexAddr Ty.sl27 rfl rfl (by omega) hrow (List.cons_ne_nil _ _)) rfl ?_; refine TL.run1 (pure_fieldAddr Ty.f33_0 rfl (.zero _) (List.cons_ne_nil _ _)) rfl ?_; refine TL.run1 (pure_load1 Ty.one3 rfl) rfl ?_; refine TL.run1 (pure_neq rfl rfl) rfl ?_; refine TL.run1 (pure_move rfl) rfl ?_; refine TL.splitP 161 rfl (fun hg161 => ?_) (fun hg161 => ?_)
              · try dsimp only at hg161
                (iterate 2 refine TL.runG rfl rfl (pure_move rfl) rfl ?_); refine TL.runG rfl rfl (pure_indexAddr Ty.sl27 rfl rfl (by omega) hrow (List.cons_ne_nil _ _)) rfl ?_; refine TL.runG rfl rfl (pure_fieldAddr Ty.f33_1 rfl (.succ (.zero _)) (List.cons_ne_nil _ _)) rfl ?_; refine TL.runG rfl rfl (pure_load1 Ty.one3 rfl) rfl ?_; refine TL.runG rfl rfl (pure_move rfl) rfl ?_; refine TL.runG rfl rfl (pure_lss rfl rfl) rfl ?_; refine TL.run1 (pure_pick_true rfl rfl) rfl ?_; refine TL.cutEnd (by repeat (first | exact Same.refl _ _ | refine Same.put rfl ?_)) rfl ?_
                first | (simp only [decide_eq_true_eq]; omega) | (simp; omega) | (simp_all; done) | (simp_all; omega)
              · try dsimp only at hg161
                (iterate 7 refine TL.passG rfl rfl rfl rfl ?_); refine TL.run1 (pure_pick_false rfl rfl) rfl ?_; refine TL.cutEnd (by repeat (first | exact Same.refl _ _ | refine Same.put rfl ?_)) rfl ?_
                first | (simp only [decide_eq_true_eq]; omega) | (simp; omega) | (simp_all; done) | (simp_all; omega)
            refine TC.condD rfl (fun hc169 => ?_) (fun hc169 => ?_)
            · try dsimp only at hc169
              refine TC.region ?_; (iterate 3 refine TL.run1 (pure_move rfl) rfl ?_); refine TL.run1 (pure_indexAddr Ty.sl27 rfl rfl (by omega) hrow (List.cons_ne_nil _ _)) rfl ?_; refine TL.run1 (pure_fieldAddr Ty.f33_1 rfl (.succ (.zero _)) (List.cons_ne_nil _ _)) rfl ?_; refine TL.run1 (pure_load1 Ty.one3 rfl) rfl ?_; refine TL.run1 (pure_max rfl rfl) rfl ?_; refine TL.run1 (pure_assign rfl) rfl ?_; refine TL.nil ?_; refine block_normal ?_; refine then_normal ?_; refine TC.region ?_; refine TL.run1 (pure_move rfl) rfl ?_; refine TL.run1 (pure_sub rfl rfl (mkI64 (by omega) (by omega))) rfl ?_; refine TL.run1 (pure_assign rfl) rfl ?_; refine TL.nil ?_
              have hs1 : (tokZ (scL c) (bnds (cls c)) (aI (scL c) (bnds (cls c)) u (m + 1))) = ((kT (scL c) ((nT (scL c)) - 1 - m)), (fT (scL c) (bnds (cls c)) ((nT (scL c)) - 1 - m)), (fT (scL c) (bnds (cls c)) (((nT (scL c)) - 1 - m) + 1))) := by (rw [aI, if_pos hc118]; unfold tokZ; rw [if_pos hjn])
              have hs2 : (nf (scL c) (bnds (cls c)) u (nR c) (m + 1)) = (fT (scL c) (bnds (cls c)) ((nT (scL c)) - 1 - m)) := by rw [nf, if_pos hc149]
              have hs3 : (lp (scL c) (bnds (cls c)) u (m + 1)) = max (lp (scL c) (bnds (cls c)) u m) (fT (scL c) (bnds (cls c)) ((nT (scL c)) - 1 - m)) := by rw [lp, if_pos hc169]
              refine loop_next (m + 1) ⟨by ((try dsimp only); rw [hs2, hs3, show (((nT (scL c)) : Int) - 1 - ((m + 1 : Nat) : Int)) = (((nT (scL c)) : Int) - 1 - m) - 1 by omega]; repeat (first | exact Agree.nil | refine Agree.cons rfl ?_)), by (try dsimp only); rw [hs1]; repeat (first | exact List.nil_sublist _ | exact List.Sublist.refl _ | apply List.Sublist.cons_cons | apply List.Sublist.cons)⟩ (show m + 1 ≤ _ by omega) (by omega)
            · try dsimp only at hc169
              refine TC.skip ?_; refine block_normal ?_; refine then_normal ?_; refine TC.region ?_; refine TL.run1 (pure_move rfl) rfl ?_; refine TL.run1 (pure_sub rfl rfl (mkI64 (by omega) (by omega))) rfl ?_; refine TL.run1 (pure_assign rfl) rfl ?_; refine TL.nil ?_
              have hs1 : (tokZ (scL c) (bnds (cls c)) (aI (scL c) (bnds (cls c)) u (m + 1))) = ((kT (scL c) ((nT (scL c)) - 1 - m)), (fT (scL c) (bnds (cls c)) ((nT (scL c)) - 1 - m)), (fT (scL c) (bnds (cls c)) (((nT (scL c)) - 1 - m) + 1))) := by (rw [aI, if_pos hc118]; unfold tokZ; rw [if_pos hjn])
              have hs2 : (nf (scL c) (bnds (cls c)) u (nR c) (m + 1)) = (fT (scL c) (bnds (cls c)) ((nT (scL c)) - 1 - m)) := by rw [nf, if_pos hc149]
              have hs3 : (lp (scL c) (bnds (cls c)) u (m + 1)) = (lp (scL c) (bnds (cls c)) u m) := by rw [lp, if_neg hc169]
              refine loop_next (m + 1) ⟨by ((try dsimp only); rw [hs2, hs3, show (((nT (scL c)) : Int) - 1 - ((m + 1 : Nat) : Int)) = (((nT (scL c)) : Int) - 1 - m) - 1 by omega]; repeat (first | exact Agree.nil | refine Agree.cons rfl ?_)), by (try dsimp only); rw [hs1]; repeat (first | exact List.nil_sublist _ | exact List.Sublist.refl _ | apply List.Sublist.cons_cons | apply List.Sublist.cons)⟩ (show m + 1 ≤ _ by omega) (by omega)
          · try dsimp only at hc149
            refine TC.skip' ?_; refine TC.regionCut [155, 156, 157, 158, 159, 160, 161, 162, 163, 164, 165, 166, 167, 168, 169] 169 ((kT (scL c) ((nT (scL c)) - 1 - m)) ≠ 3 ∧ (fT (scL c) (bnds (cls c)) ((nT (scL c)) - 1 - m)) < u) ?_ ?_
            · skip
              (iterate 2 refine TL.run1 (pure_move rfl) rfl ?_); refine TL.run1 (pure_indexAddr Ty.sl27 rfl rfl (by omega) hrow (List.cons_ne_nil _ _)) rfl ?_; refine TL.run1 (pure_fieldAddr Ty.f33_0 rfl (.zero _) (List.cons_ne_nil _ _)) rfl ?_; refine TL.run1 (pure_load1 Ty.one3 rfl) rfl ?_; refine TL.run1 (pure_neq rfl rfl) rfl ?_; refine TL.run1 (pure_move rfl) rfl ?_; refine TL.splitP 161 rfl (fun hg161 => ?_) (fun hg161 => ?_)
              · try dsimp only at hg161
                (iterate 2 refine TL.runG rfl rfl (pure_move rfl) rfl ?_); refine TL.runG rfl rfl (pure_indexAddr Ty.sl27 rfl rfl (by omega) hrow (List.cons_ne_nil _ _)) rfl ?_; refine TL.runG rfl rfl (pure_fieldAddr Ty.f33_1 rfl (.succ (.zero _)) (List.cons_ne_nil _ _)) rfl ?_; refine TL.runG rfl rfl (pure_load1 Ty.one3 rfl) rfl ?_; refine TL.runG rfl rfl (pure_move rfl) rfl ?_; refine TL.runG rfl rfl (pure_lss rfl rfl) rfl ?_; refine TL.run1 (pure_pick_true rfl rfl) rfl ?_; refine TL.cutEnd (by repeat (first | exact Same.refl _ _ | refine Same.put rfl ?_)) rfl ?_
                first | (simp only [decide_eq_true_eq]; omega) | (simp; omega) | (simp_all; done) | (simp_all; omega)
              · try dsimp only at hg161
                (iterate 7 refine TL.passG rfl rfl rfl rfl ?_); refine TL.run1 (pure_pick_false rfl rfl) rfl ?_; refine TL.cutEnd (by repeat (first | exact Same.refl _ _ | refine Same.put rfl ?_)) rfl ?_
                first | (simp only [decide_eq_true_eq]; omega) | (simp; omega) | (simp_all; done) | (simp_all; omega)
            refine TC.condD rfl (fun hc169 => ?_) (fun hc169 => ?_)
            · try dsimp only at hc169
              refine TC.region ?_; (iterate 3 refine TL.run1 (pure_move rfl) rfl ?_); refine TL.run1 (pure_indexAddr Ty.sl27 rfl rfl (by omega) hrow (List.cons_ne_nil _ _)) rfl ?_; refine TL.run1 (pure_fieldAddr Ty.f33_1 rfl (.succ (.zero _)) (List.cons_ne_nil _ _)) rfl ?_; refine TL.run1 (pure_load1 Ty.one3 rfl) rfl ?_; refine TL.run1 (pure_max rfl rfl) rfl ?_; refine TL.run1 (pure_assign rfl) rfl ?_; refine TL.nil ?_; refine block_normal ?_; refine then_normal ?_; refine TC.region ?_; refine TL.run1 (pure_move rfl) rfl ?_; refine TL.run1 (pure_sub rfl rfl (mkI64 (by omega) (by omega))) rfl ?_; refine TL.run1 (pure_assign rfl) rfl ?_; refine TL.nil ?_
              have hs1 : (tokZ (scL c) (bnds (cls c)) (aI (scL c) (bnds (cls c)) u (m + 1))) = ((kT (scL c) ((nT (scL c)) - 1 - m)), (fT (scL c) (bnds (cls c)) ((nT (scL c)) - 1 - m)), (fT (scL c) (bnds (cls c)) (((nT (scL c)) - 1 - m) + 1))) := by (rw [aI, if_pos hc118]; unfold tokZ; rw [if_pos hjn])
              have hs2 : (nf (scL c) (bnds (cls c)) u (nR c) (m + 1)) = (nf (scL c) (bnds (cls c)) u (nR c) m) := by rw [nf, if_neg hc149]
              have hs3 : (lp (scL c) (bnds (cls c)) u (m + 1)) = max (lp (scL c) (bnds (cls c)) u m) (fT (scL c) (bnds (cls c)) ((nT (scL c)) - 1 - m)) := by rw [lp, if_pos hc169]
              refine loop_next (m + 1) ⟨by ((try dsimp only); rw [hs2, hs3, show (((nT (scL c)) : Int) - 1 - ((m + 1 : Nat) : Int)) = (((nT (scL c)) : Int) - 1 - m) - 1 by omega]; repeat (first | exact Agree.nil | refine Agree.cons rfl ?_)), by (try dsimp only); rw [hs1]; repeat (first | exact List.nil_sublist _ | exact List.Sublist.refl _ | apply List.Sublist.cons_cons | apply List.Sublist.cons)⟩ (show m + 1 ≤ _ by omega) (by omega)
            · try dsimp only at hc169
              refine TC.skip ?_; refine block_normal ?_; refine then_normal ?_; refine TC.region ?_; refine TL.run1 (pure_move rfl) rfl ?_; refine TL.run1 (pure_sub rfl rfl (mkI64 (by omega) (by omega))) rfl ?_; refine TL.run1 (pure_assign rfl) rfl ?_; refine TL.nil ?_
              have hs1 : (tokZ (scL c) (bnds (cls c)) (aI (scL c) (bnds (cls c)) u (m + 1))) = ((kT (scL c) ((nT (scL c)) - 1 - m)), (fT (scL c) (bnds (cls c)) ((nT (scL c)) - 1 - m)), (fT (scL c) (bnds (cls c)) (((nT (scL c)) - 1 - m) + 1))) := by (rw [aI, if_pos hc118]; unfold tokZ; rw [if_pos hjn])
              have hs2 : (nf (scL c) (bnds (cls c)) u (nR c) (m + 1)) = (nf (scL c) (bnds (cls c)) u (nR c) m) := by rw [nf, if_neg hc149]
              have hs3 : (lp (scL c) (bnds (cls c)) u (m + 1)) = (lp (scL c) (bnds (cls c)) u m) := by rw [lp, if_neg hc169]
              refine loop_next (m + 1) ⟨by ((try dsimp only); rw [hs2, hs3, show (((nT (scL c)) : Int) - 1 - ((m + 1 : Nat) : Int)) = (((nT (scL c)) : Int) - 1 - m) - 1 by omega]; repeat (first | exact Agree.nil | refine Agree.cons rfl ?_)), by (try dsimp only); rw [hs1]; repeat (first | exact List.nil_sublist _ | exact List.Sublist.refl _ | apply List.Sublist.cons_cons | apply List.Sublist.cons)⟩ (show m + 1 ≤ _ by omega) (by omega)
        · try dsimp only at hc118
          refine TC.skip' ?_; refine TC.seq ?_; refine TC.regionCut [135, 136, 137, 138, 139, 140, 141, 142, 143, 144, 145, 146, 147, 148, 149] 149 ((kT (scL c) ((nT (scL c)) - 1 - m)) ≠ 3 ∧ u < (fT (scL c) (bnds (cls c)) ((nT (scL c)) - 1 - m))) ?_ ?_
          · skip
            (iterate 2 refine TL.run1 (pure_move rfl) rfl ?_); refine TL.run1 (pure_indexAddr Ty.sl27 rfl rfl (by omega) hrow (List.cons_ne_nil _ _)) rfl ?_; refine TL.run1 (pure_fieldAddr Ty.f33_0 rfl (.zero _) (List.cons_ne_nil _ _)) rfl ?_; refine TL.run1 (pure_load1 Ty.one3 rfl) rfl ?_; refine TL.run1 (pure_neq rfl rfl) rfl ?_; refine TL.run1 (pure_move rfl) rfl ?_; refine TL.splitP 141 rfl (fun hg141 => ?_) (fun hg141 => ?_)
            · try dsimp only at hg141
              (iterate 2 refine TL.runG rfl rfl (pure_move rfl) rfl ?_); refine TL.runG rfl rfl (pure_indexAddr Ty.sl27 rfl rfl (by omega) hrow (List.cons_ne_nil _ _)) rfl ?_; refine TL.runG rfl rfl (pure_fieldAddr Ty.f33_1 rfl (.succ (.zero _)) (List.cons_ne_nil _ _)) rfl ?_; refine TL.runG rfl rfl (pure_load1 Ty.one3 rfl) rfl ?_; refine TL.runG rfl rfl (pure_move rfl) rfl ?_; refine TL.runG rfl rfl (pure_gtr rfl rfl) rfl ?_; refine TL.run1 (pure_pick_true rfl rfl) rfl ?_; refine TL.cutEnd (by repeat (first | exact Same.refl _ _ | refine Same.put rfl ?_)) rfl ?_
              first | (simp only [decide_eq_true_eq]; omega) | (simp; omega) | (simp_all; done) | (simp_all; omega)
            · try dsimp only at hg141
              (iterate 7 refine TL.passG rfl rfl rfl rfl ?_); refine TL.run1 (pure_pick_false rfl rfl) rfl ?_; refine TL.cutEnd (by repeat (first | exact Same.refl _ _ | refine Same.put rfl ?_)) rfl ?_
              first | (simp only [decide_eq_true_eq]; omega) | (simp; omega) | (simp_all; done) | (simp_all; omega)
          refine TC.condD rfl (fun hc149 => ?_) (fun hc149 => ?_)
          · try dsimp only at hc149
            refine TC.region ?_; (iterate 2 refine TL.run1 (pure_move rfl) rfl ?_); refine TL.run1 (pure_indexAddr Ty.sl27 rfl rfl (by omega) hrow (List.cons_ne_nil _ _)) rfl ?_; refine TL.run1 (pure_fieldAddr Ty.f33_1 rfl (.succ (.zero _)) (List.cons_ne_nil _ _)) rfl ?_; refine TL.run1 (pure_load1 Ty.one3 rfl) rfl ?_; refine TL.run1 (pure_assign rfl) rfl ?_; refine TL.nil' ?_; refine TC.regionCut [155, 156, 157, 158, 159, 160, 161, 162, 163, 164, 165, 166, 167, 168, 169] 169 ((kT (scL c) ((nT (scL c)) - 1 - m)) ≠ 3 ∧ (fT (scL c) (bnds (cls c)) ((nT (scL c)) - 1 - m)) < u) ?_ ?_
            · skip
              (iterate 2 refine TL.run1 (pure_move rfl) rfl ?_); refine TL.run1 (pure_indexAddr Ty.sl27 rfl rfl (by omega) hrow (List.cons_ne_nil _ _)) rfl ?_; refine TL.run1 (pure_fieldAddr Ty.f33_0 rfl (.zero _) (List.cons_ne_nil _ _)) rfl ?_; refine TL.run1 (pure_load1 Ty.one3 rfl) rfl ?_; refine TL.run1 (pure_neq rfl rfl) rfl ?_; refine TL.run1 (pure_move rfl) rfl ?_; refine TL.splitP 161 rfl (fun hg161 => ?_) (fun hg161 => ?_)
              · try dsimp only at hg161
                (iterate 2 refine TL.runG rfl rfl (pure_move rfl) rfl ?_); refine TL.runG rfl rfl (pure_indexAddr Ty.sl27 rfl rfl (by omega) hrow (List.cons_ne_nil _ _)) rfl ?_; refine TL.runG rfl rfl (pure_fieldAddr Ty.f33_1 rfl (.succ (.zero _)) (List.cons_ne_nil _ _)) rfl ?_; refine TL.runG rfl rfl (pure_load1 Ty.one3 rfl) rfl ?_; refine TL.runG rfl rfl (pure_move rfl) rfl ?_; refine TL.runG rfl rfl (pure_lss rfl rfl) rfl ?_; refine TL.run1 (pure_pick_true rfl rfl) rfl ?_; refine TL.cutEnd (by repeat (first | exact Same.refl _ _ | refine Same.put rfl ?_)) rfl ?_
                first | (simp only [decide_eq_true_eq]; omega) | (simp; omega) | (simp_all; done) | (simp_all; omega)
              · try dsimp only at hg161
                (iterate 7 refine TL.passG rfl rfl rfl rfl ?_); refine TL.run1 (pure_pick_false rfl rfl) rfl ?_; refine TL.cutEnd (by repeat (first | exact Same.refl _ _ | refine Same.put rfl ?_)) rfl ?_
                first | (simp only [decide_eq_true_eq]; omega) | (simp; omega) | (simp_all; done) | (simp_all; omega)
            refine TC.condD rfl (fun hc169 => ?_) (fun hc169 => ?_)
            · try dsimp only at hc169
              refine TC.region ?_; (iterate 3 refine TL.run1 (pure_move rfl) rfl ?_); refine TL.run1 (pure_indexAddr Ty.sl27 rfl rfl (by omega) hrow (List.cons_ne_nil _ _)) rfl ?_; refine TL.run1 (pure_fieldAddr Ty.f33_1 rfl (.succ (.zero _)) (List.cons_ne_nil _ _)) rfl ?_; refine TL.run1 (pure_load1 Ty.one3 rfl) rfl ?_; refine TL.run1 (pure_max rfl rfl) rfl ?_; refine TL.run1 (pure_assign rfl) rfl ?_; refine TL.nil ?_; refine block_normal ?_; refine then_normal ?_; refine TC.region ?_; refine TL.run1 (pure_move rfl) rfl ?_; refine TL.run1 (pure_sub rfl rfl (mkI64 (by omega) (by omega))) rfl ?_; refine TL.run1 (pure_assign rfl) rfl ?_; refine TL.nil ?_
              have hs1 : (tokZ (scL c) (bnds (cls c)) (aI (scL c) (bnds (cls c)) u (m + 1))) = (tokZ (scL c) (bnds (cls c)) (aI (scL c) (bnds (cls c)) u m)) := by rw [aI, if_neg hc118]
              have hs2 : (nf (scL c) (bnds (cls c)) u (nR c) (m + 1)) = (fT (scL c) (bnds (cls c)) ((nT (scL c)) - 1 - m)) := by rw [nf, if_pos hc149]
              have hs3 : (lp (scL c) (bnds (cls c)) u (m + 1)) = max (lp (scL c) (bnds (cls c)) u m) (fT (scL c) (bnds (cls c)) ((nT (scL c)) - 1 - m)) := by rw [lp, if_pos hc169]
              refine loop_next (m + 1) ⟨by ((try dsimp only); rw [hs2, hs3, show (((nT (scL c)) : Int) - 1 - ((m + 1 : Nat) : Int)) = (((nT (scL c)) : Int) - 1 - m) - 1 by omega]; repeat (first | exact Agree.nil | refine Agree.cons rfl ?_)), by (try dsimp only); rw [hs1]; repeat (first | exact List.nil_sublist _ | exact List.Sublist.refl _ | apply List.Sublist.cons_cons | apply List.Sublist.cons)⟩ (show m + 1 ≤ _ by omega) (by omega)
            · try dsimp only at hc169
              refine TC.skip ?_; refine block_normal ?_; refine then_normal ?_; refine TC.region ?_; refine TL.run1 (pure_move rfl) rfl ?_; refine TL.run1 (pure_sub rfl rfl (mkI64 (by omega) (by omega))) rfl ?_; refine TL.run1 (pure_assign rfl) rfl ?_; refine TL.nil ?_
              have hs1 : (tokZ (scL c) (bnds (cls c)) (aI (scL c) (bnds (cls c)) u (m + 1))) = (tokZ (scL c) (bnds (cls c)) (aI (scL c) (bnds (cls c)) u m)) := by rw [aI, if_neg hc118]
              have hs2 : (nf (scL c) (bnds (cls c)) u (nR c) (m + 1)) = (fT (scL c) (bnds (cls c)) ((nT (scL c)) - 1 - m)) := by rw [nf, if_pos hc149]
              have hs3 : (lp (scL c) (bnds (cls c)) u (m + 1)) = (lp (scL c) (bnds (cls c)) u m) := by rw [lp, if_neg hc169]
              refine loop_next (m + 1) ⟨by ((try dsimp only); rw [hs2, hs3, show (((nT (scL c)) : Int) - 1 - ((m + 1 : Nat) : Int)) = (((nT (scL c)) : Int) - 1 - m) - 1 by omega]; repeat (first | exact Agree.nil | refine Agree.cons rfl ?_)), by (try dsimp only); rw [hs1]; repeat (first | exact List.nil_sublist _ | exact List.Sublist.refl _ | apply List.Sublist.cons_cons | apply List.Sublist.cons)⟩ (show m + 1 ≤ _ by omega) (by omega)
          · try dsimp only at hc149
            refine TC.skip' ?_; refine TC.regionCut [155, 156, 157, 158, 159, 160, 161, 162, 163, 164, 165, 166, 167, 168, 169] 169 ((kT (scL c) ((nT (scL c)) - 1 - m)) ≠ 3 ∧ (fT (scL c) (bnds (cls c)) ((nT (scL c)) - 1 - m)) < u) ?_ ?_
            · skip
              (iterate 2 refine TL.run1 (pure_move rfl) rfl ?_); refine TL.run1 (pure_indexAddr Ty.sl27 rfl rfl (by omega) hrow (List.cons_ne_nil _ _)) rfl ?_; refine TL.run1 (pure_fieldAddr Ty.f33_0 rfl (.zero _) (List.cons_ne_nil _ _)) rfl ?_; refine TL.run1 (pure_load1 Ty.one3 rfl) rfl ?_; refine TL.run1 (pure_neq rfl rfl) rfl ?_; refine TL.run1 (pure_move rfl) rfl ?_; refine TL.splitP 161 rfl (fun hg161 => ?_) (fun hg161 => ?_)
              · try dsimp only at hg161
                (iterate 2 refine TL.runG rfl rfl (pure_move rfl) rfl ?_); refine TL.runG rfl rfl (pure_indexAddr Ty.sl27 rfl rfl (by omega) hrow (List.cons_ne_nil _ _)) rfl ?_; refine TL.runG rfl rfl (pure_fieldAddr Ty.f33_1 rfl (.succ (.zero _)) (List.cons_ne_nil _ _)) rfl ?_; refine TL.runG rfl rfl (pure_load1 Ty.one3 rfl) rfl ?_; refine TL.runG rfl rfl (pure_move rfl) rfl ?_; refine TL.runG rfl rfl (pure_lss rfl rfl) rfl ?_; refine TL.run1 (pure_pick_true rfl rfl) rfl ?_; refine TL.cutEnd (by repeat (first | exact Same.refl _ _ | refine Same.put rfl ?_)) rfl ?_
                first | (simp only [decide_eq_true_eq]; omega) | (simp; omega) | (simp_all; done) | (simp_all; omega)
              · try dsimp only at hg161
                (iterate 7 refine TL.passG rfl rfl rfl rfl ?_); refine TL.run1 (pure_pick_false rfl rfl) rfl ?_; refine TL.cutEnd (by repeat (first | exact Same.refl _ _ | refine Same.put rfl ?_)) rfl ?_
                first | (simp only [decide_eq_true_eq]; omega) | (simp; omega) | (simp_all; done) | (simp_all; omega)
            refine TC.condD rfl (fun hc169 => ?_) (fun hc169 => ?_)
            · try dsimp only at hc169
              refine TC.region ?_; (iterate 3 refine TL.run1 (pure_move rfl) rfl ?_); refine TL.run1 (pure_indexAddr Ty.sl27 rfl rfl (by omega) hrow (List.cons_ne_nil _ _)) rfl ?_; refine TL.run1 (pure_fieldAddr Ty.f33_1 rfl (.succ (.zero _)) (List.cons_ne_nil _ _)) rfl ?_; refine TL.run1 (pure_load1 Ty.one3 rfl) rfl ?_; refine TL.run1 (pure_max rfl rfl) rfl ?_; refine TL.run1 (pure_assign rfl) rfl ?_; refine TL.nil ?_; refine block_normal ?_; refine then_normal ?_; refine TC.region ?_; refine TL.run1 (pure_move rfl) rfl ?_; refine TL.run1 (pure_sub rfl rfl (mkI64 (by omega) (by omega))) rfl ?_; refine TL.run1 (pure_assign rfl) rfl ?_; refine TL.nil ?_
              have hs1 : (tokZ (scL c) (bnds (cls c)) (aI (scL c) (bnds (cls c)) u (m + 1))) = (tokZ (scL c) (bnds (cls c)) (aI (scL c) (bnds (cls c)) u m)) := by rw [aI, if_neg hc118]
              have hs2 : (nf (scL c) (bnds (cls c)) u (nR c) (m + 1)) = (nf (scL c) (bnds (cls c)) u (nR c) m) := by rw [nf, if_neg hc149]
              have hs3 : (lp (scL c) (bnds (cls c)) u (m + 1)) = max (lp (scL c) (bnds (cls c)) u m) (fT (scL c) (bnds (cls c)) ((nT (scL c)) - 1 - m)) := by rw [lp, if_pos hc169]
              refine loop_next (m + 1) ⟨by ((try dsimp only); rw [hs2, hs3, show (((nT (scL c)) : Int) - 1 - ((m + 1 : Nat) : Int)) = (((nT (scL c)) : Int) - 1 - m) - 1 by omega]; repeat (first | exact Agree.nil | refine Agree.cons rfl ?_)), by (try dsimp only); rw [hs1]; repeat (first | exact List.nil_sublist _ | exact List.Sublist.refl _ | apply List.Sublist.cons_cons | apply List.Sublist.cons)⟩ (show m + 1 ≤ _ by omega) (by omega)
            · try dsimp only at hc169
              refine TC.skip ?_; refine block_normal ?_; refine then_normal ?_; refine TC.region ?_; refine TL.run1 (pure_move rfl) rfl ?_; refine TL.run1 (pure_sub rfl rfl (mkI64 (by omega) (by omega))) rfl ?_; refine TL.run1 (pure_assign rfl) rfl ?_; refine TL.nil ?_
              have hs1 : (tokZ (scL c) (bnds (cls c)) (aI (scL c) (bnds (cls c)) u (m + 1))) = (tokZ (scL c) (bnds (cls c)) (aI (scL c) (bnds (cls c)) u m)) := by rw [aI, if_neg hc118]
              have hs2 : (nf (scL c) (bnds (cls c)) u (nR c) (m + 1)) = (nf (scL c) (bnds (cls c)) u (nR c) m) := by rw [nf, if_neg hc149]
              have hs3 : (lp (scL c) (bnds (cls c)) u (m + 1)) = (lp (scL c) (bnds (cls c)) u m) := by rw [lp, if_neg hc169]
              refine loop_next (m + 1) ⟨by ((try dsimp only); rw [hs2, hs3, show (((nT (scL c)) : Int) - 1 - ((m + 1 : Nat) : Int)) = (((nT (scL c)) : Int) - 1 - m) - 1 by omega]; repeat (first | exact Agree.nil | refine Agree.cons rfl ?_)), by (try dsimp only); rw [hs1]; repeat (first | exact List.nil_sublist _ | exact List.Sublist.refl _ | apply List.Sublist.cons_cons | apply List.Sublist.cons)⟩ (show m + 1 ≤ _ by omega) (by omega)
      · try dsimp only at hc100
        refine TC.exit ?_; refine then_exit ?_; refine loop_exit ?_; refine block_here ?_; refine then_normal ?_; refine TC.seq ?_
        have hm : m = (nT (scL c)) := by omega
        rw [hm]
        have e3_ := (stE_ok hok hu).1
        have e4 := nxV_ok hok hu
        have e5 := pvV_ok hok hu
        rw [← hto.lp_pf u] at e5
        rw [e3_, e4, e5]
        have has : aS c u = aI (scL c) (bnds (cls c)) u (nT (scL c)) := rfl
        refine TC.region ?_; refine TL.run1 (pure_assign rfl) rfl ?_; refine TL.nil' ?_; (iterate 2 refine TC.seq ?_); refine TC.region ?_; (iterate 2 refine TL.run1 (pure_move rfl) rfl ?_); refine TL.run1 (pure_eql rfl rfl) rfl ?_; refine TL.nil' ?_; refine TC.condD rfl (fun hc179 => ?_) (fun hc179 => ?_)
        · try dsimp only at hc179
          have hue : (nR c : Int) ≤ u := by omega
          obtain ⟨e1, e2, e6⟩ := tq_out hok (.inr hue)
          rw [has] at e6
          rw [e1, e2, e6]
          refine TC.region ?_; refine TL.run1 (pure_assign rfl) rfl ?_; refine TL.nil' ?_; refine TC.regionCut [180, 181, 182, 183, 184, 185, 186, 187, 188, 189, 190, 191, 192, 193, 194, 195, 196, 197, 198, 199, 200, 201, 202, 203, 204, 205, 4] 4 (True) ?_ ?_
          · skip
            (iterate 2 refine TL.run1 (pure_move rfl) rfl ?_); refine TL.run1 (pure_eql rfl rfl) rfl ?_; refine TL.run1 (pure_move rfl) rfl ?_; refine TL.splitP 183 rfl (fun hg183 => ?_) (fun hg183 => ?_)
            · try dsimp only at hg183
              (iterate 2 refine TL.runG rfl rfl (pure_load_own Ty.agg32 rfl (by repeat (first | exact List.Mem.head _ | apply List.Mem.tail)) (by repeat (first | exact DropR.zero _ | apply DropR.succ)) (.succ (.succ (.succ (.zero _))))) rfl ?_); refine TL.runG rfl rfl (pure_eql_agg Ty.eq32 rfl rfl (.cons (.cons (.cons .nil))) (.cons (.cons (.cons .nil))) rfl rfl) rfl ?_; refine TL.run1 (pure_pick_true rfl rfl) rfl ?_; refine TL.run1 (pure_move rfl) rfl ?_; refine TL.splitP 188 rfl (fun hg188 => ?_) (fun hg188 => ?_)
              · try dsimp only at hg188
                refine TL.runG rfl rfl (pure_move rfl) rfl ?_; refine TL.runG rfl rfl (pure_eql rfl rfl) rfl ?_; refine TL.run1 (pure_pick_true rfl rfl) rfl ?_; refine TL.run1 (pure_move rfl) rfl ?_; refine TL.splitP 192 rfl (fun hg192 => ?_) (fun hg192 => ?_)
                · try dsimp only at hg192
                  refine TL.runG rfl rfl (pure_move rfl) rfl ?_; refine TL.runG rfl rfl (pure_eql rfl rfl) rfl ?_; refine TL.run1 (pure_pick_true rfl rfl) rfl ?_; refine TL.run1 (pure_move rfl) rfl ?_; refine TL.splitP 196 rfl (fun hg196 => ?_) (fun hg196 => ?_)
                  · try dsimp only at hg196
                    (iterate 2 refine TL.runG rfl rfl (pure_move rfl) rfl ?_); refine TL.runG rfl rfl (pure_eql rfl rfl) rfl ?_; refine TL.run1 (pure_pick_true rfl rfl) rfl ?_; refine TL.run1 (pure_move rfl) rfl ?_; refine TL.splitP 201 rfl (fun hg201 => ?_) (fun hg201 => ?_)
                    · try dsimp only at hg201
                      (iterate 2 refine TL.runG rfl rfl (pure_move rfl) rfl ?_); refine TL.runG rfl rfl (pure_eql rfl rfl) rfl ?_; refine TL.run1 (pure_pick_true rfl rfl) rfl ?_; refine TL.run1 (pure_assign rfl) rfl ?_; refine TL.cutEnd (by repeat (first | exact Same.refl _ _ | refine Same.put rfl ?_)) rfl ?_
                      first | (simp; done) | (simp_all; done)
                    · try dsimp only at hg201
                      (iterate 3 refine TL.passG rfl rfl rfl rfl ?_); refine TL.run1 (pure_pick_false rfl rfl) rfl ?_; refine TL.run1 (pure_assign rfl) rfl ?_; refine TL.cutEnd (by repeat (first | exact Same.refl _ _ | refine Same.put rfl ?_)) rfl ?_
                      first | (simp; done) | (simp_all; done)
                  · try dsimp only at hg196
                    (iterate 3 refine TL.passG rfl rfl rfl rfl ?_); refine TL.run1 (pure_pick_false rfl rfl) rfl ?_; refine TL.run1 (pure_move rfl) rfl ?_; (iterate 3 refine TL.passG rfl rfl rfl rfl ?_); refine TL.run1 (pure_pick_false rfl rfl) rfl ?_; refine TL.run1 (pure_assign rfl) rfl ?_; refine TL.cutEnd (by repeat (first | exact Same.refl _ _ | refine Same.put rfl ?_)) rfl ?_
                    first | (simp; done) | (simp_all; done)
                · try dsimp only at hg192
                  (iterate 2 refine TL.passG rfl rfl rfl rfl ?_); refine TL.run1 (pure_pick_false rfl rfl) rfl ?_; refine TL.run1 (pure_move rfl) rfl ?_; (iterate 3 refine TL.passG rfl rfl rfl rfl ?_); refine TL.run1 (pure_pick_false rfl rfl) rfl ?_; refine TL.run1 (pure_move rfl) rfl ?_; (iterate 3 refine TL.passG rfl rfl rfl rfl ?_); refine TL.run1 (pure_pick_false rfl rfl) rfl ?_; refine TL.run1 (pure_assign rfl) rfl ?_; refine TL.cutEnd (by repeat (first | exact Same.refl _ _ | refine Same.put rfl ?_)) rfl ?_
                  first | (simp; done) | (simp_all; done)
              · try dsimp only at hg188
                (iterate 2 refine TL.passG rfl rfl rfl rfl ?_); refine TL.run1 (pure_pick_false rfl rfl) rfl ?_; refine TL.run1 (pure_move rfl) rfl ?_; (iterate 2 refine TL.passG rfl rfl rfl rfl ?_); refine TL.run1 (pure_pick_false rfl rfl) rfl ?_; refine TL.run1 (pure_move rfl) rfl ?_; (iterate 3 refine TL.passG rfl rfl rfl rfl ?_); refine TL.run1 (pure_pick_false rfl rfl) rfl ?_; refine TL.run1 (pure_move rfl) rfl ?_; (iterate 3 refine TL.passG rfl rfl rfl rfl ?_); refine TL.run1 (pure_pick_false rfl rfl) rfl ?_; refine TL.run1 (pure_assign rfl) rfl ?_; refine TL.cutEnd (by repeat (first | exact Same.refl _ _ | refine Same.put rfl ?_)) rfl ?_
                first | (simp; done) | (simp_all; done)
            · try dsimp only at hg183
              (iterate 3 refine TL.passG rfl rfl rfl rfl ?_); refine TL.run1 (pure_pick_false rfl rfl) rfl ?_; refine TL.run1 (pure_move rfl) rfl ?_; (iterate 2 refine TL.passG rfl rfl rfl rfl ?_); refine TL.run1 (pure_pick_false rfl rfl) rfl ?_; refine TL.run1 (pure_move rfl) rfl ?_; (iterate 2 refine TL.passG rfl rfl rfl rfl ?_); refine TL.run1 (pure_pick_false rfl rfl) rfl ?_; refine TL.run1 (pure_move rfl) rfl ?_; (iterate 3 refine TL.passG rfl rfl rfl rfl ?_); refine TL.run1 (pure_pick_false rfl rfl) rfl ?_; refine TL.run1 (pure_move rfl) rfl ?_; (iterate 3 refine TL.passG rfl rfl rfl rfl ?_); refine TL.run1 (pure_pick_false rfl rfl) rfl ?_; refine TL.run1 (pure_assign rfl) rfl ?_; refine TL.cutEnd (by repeat (first | exact Same.refl _ _ | refine Same.put rfl ?_)) rfl ?_
              first | (simp; done) | (simp_all; done)
          refine TC.ret ?_
          exact ret_bool rfl (by simp)
        · try dsimp only at hc179
          obtain ⟨e1, e2⟩ := tq_in hok hu.1 (by omega)
          rw [has] at e2
          rw [e1, e2]
          refine TC.skip' ?_; refine TC.regionCut [180, 181, 182, 183, 184, 185, 186, 187, 188, 189, 190, 191, 192, 193, 194, 195, 196, 197, 198, 199, 200, 201, 202, 203, 204, 205, 4] 4 (True) ?_ ?_
          · skip
            (iterate 2 refine TL.run1 (pure_move rfl) rfl ?_); refine TL.run1 (pure_eql rfl rfl) rfl ?_; refine TL.run1 (pure_move rfl) rfl ?_; refine TL.splitP 183 rfl (fun hg183 => ?_) (fun hg183 => ?_)
            · try dsimp only at hg183
              (iterate 2 refine TL.runG rfl rfl (pure_load_own Ty.agg32 rfl (by repeat (first | exact List.Mem.head _ | apply List.Mem.tail)) (by repeat (first | exact DropR.zero _ | apply DropR.succ)) (.succ (.succ (.succ (.zero _))))) rfl ?_); refine TL.runG rfl rfl (pure_eql_agg Ty.eq32 rfl rfl (.cons (.cons (.cons .nil))) (.cons (.cons (.cons .nil))) rfl rfl) rfl ?_; refine TL.run1 (pure_pick_true rfl rfl) rfl ?_; refine TL.run1 (pure_move rfl) rfl ?_; refine TL.splitP 188 rfl (fun hg188 => ?_) (fun hg188 => ?_)
              · try dsimp only at hg188
                refine TL.runG rfl rfl (pure_move rfl) rfl ?_; refine TL.runG rfl rfl (pure_eql rfl rfl) rfl ?_; refine TL.run1 (pure_pick_true rfl rfl) rfl ?_; refine TL.run1 (pure_move rfl) rfl ?_; refine TL.splitP 192 rfl (fun hg192 => ?_) (fun hg192 => ?_)
                · try dsimp only at hg192
                  refine TL.runG rfl rfl (pure_move rfl) rfl ?_; refine TL.runG rfl rfl (pure_eql rfl rfl) rfl ?_; refine TL.run1 (pure_pick_true rfl rfl) rfl ?_; refine TL.run1 (pure_move rfl) rfl ?_; refine TL.splitP 196 rfl (fun hg196 => ?_) (fun hg196 => ?_)
                  · try dsimp only at hg196
                    (iterate 2 refine TL.runG rfl rfl (pure_move rfl) rfl ?_); refine TL.runG rfl rfl (pure_eql rfl rfl) rfl ?_; refine TL.run1 (pure_pick_true rfl rfl) rfl ?_; refine TL.run1 (pure_move rfl) rfl ?_; refine TL.splitP 201 rfl (fun hg201 => ?_) (fun hg201 => ?_)
                    · try dsimp only at hg201
                      (iterate 2 refine TL.runG rfl rfl (pure_move rfl) rfl ?_); refine TL.runG rfl rfl (pure_eql rfl rfl) rfl ?_; refine TL.run1 (pure_pick_true rfl rfl) rfl ?_; refine TL.run1 (pure_assign rfl) rfl ?_; refine TL.cutEnd (by repeat (first | exact Same.refl _ _ | refine Same.put rfl ?_)) rfl ?_
                      first | (simp; done) | (simp_all; done)
                    · try dsimp only at hg201
                      (iterate 3 refine TL.passG rfl rfl rfl rfl ?_); refine TL.run1 (pure_pick_false rfl rfl) rfl ?_; refine TL.run1 (pure_assign rfl) rfl ?_; refine TL.cutEnd (by repeat (first | exact Same.refl _ _ | refine Same.put rfl ?_)) rfl ?_
                      first | (simp; done) | (simp_all; done)
                  · try dsimp only at hg196
                    (iterate 3 refine TL.passG rfl rfl rfl rfl ?_); refine TL.run1 (pure_pick_false rfl rfl) rfl ?_; refine TL.run1 (pure_move rfl) rfl ?_; (iterate 3 refine TL.passG rfl rfl rfl rfl ?_); refine TL.run1 (pure_pick_false rfl rfl) rfl ?_; refine TL.run1 (pure_assign rfl) rfl ?_; refine TL.cutEnd (by repeat (first | exact Same.refl _ _ | refine Same.put rfl ?_)) rfl ?_
                    first | (simp; done) | (simp_all; done)
                · try dsimp only at hg192
                  (iterate 2 refine TL.passG rfl rfl rfl rfl ?_); refine TL.run1 (pure_pick_false rfl rfl) rfl ?_; refine TL.run1 (pure_move rfl) rfl ?_; (iterate 3 refine TL.passG rfl rfl rfl rfl ?_); refine TL.run1 (pure_pick_false rfl rfl) rfl ?_; refine TL.run1 (pure_move rfl) rfl ?_; (iterate 3 refine TL.passG rfl rfl rfl rfl ?_); refine TL.run1 (pure_pick_false rfl rfl) rfl ?_; refine TL.run1 (pure_assign rfl) rfl ?_; refine TL.cutEnd (by repeat (first | exact Same.refl _ _ | refine Same.put rfl ?_)) rfl ?_
                  first | (simp; done) | (simp_all; done)
              · try dsimp only at hg188
                (iterate 2 refine TL.passG rfl rfl rfl rfl ?_); refine TL.run1 (pure_pick_false rfl rfl) rfl ?_; refine TL.run1 (pure_move rfl) rfl ?_; (iterate 2 refine TL.passG rfl rfl rfl rfl ?_); refine TL.run1 (pure_pick_false rfl rfl) rfl ?_; refine TL.run1 (pure_move rfl) rfl ?_; (iterate 3 refine TL.passG rfl rfl rfl rfl ?_); refine TL.run1 (pure_pick_false rfl rfl) rfl ?_; refine TL.run1 (pure_move rfl) rfl ?_; (iterate 3 refine TL.passG rfl rfl rfl rfl ?_); refine TL.run1 (pure_pick_false rfl rfl) rfl ?_; refine TL.run1 (pure_assign rfl) rfl ?_; refine TL.cutEnd (by repeat (first | exact Same.refl _ _ | refine Same.put rfl ?_)) rfl ?_
                first | (simp; done) | (simp_all; done)
            · try dsimp only at hg183
              (iterate 3 refine TL.passG rfl rfl rfl rfl ?_); refine TL.run1 (pure_pick_false rfl rfl) rfl ?_; refine TL.run1 (pure_move rfl) rfl ?_; (iterate 2 refine TL.passG rfl rfl rfl rfl ?_); refine TL.run1 (pure_pick_false rfl rfl) rfl ?_; refine TL.run1 (pure_move rfl) rfl ?_; (iterate 2 refine TL.passG rfl rfl rfl rfl ?_); refine TL.run1 (pure_pick_false rfl rfl) rfl ?_; refine TL.run1 (pure_move rfl) rfl ?_; (iterate 3 refine TL.passG rfl rfl rfl rfl ?_); refine TL.run1 (pure_pick_false rfl rfl) rfl ?_; refine TL.run1 (pure_move rfl) rfl ?_; (iterate 3 refine TL.passG rfl rfl rfl rfl ?_); refine TL.run1 (pure_pick_false rfl rfl) rfl ?_; refine TL.run1 (pure_assign rfl) rfl ?_; refine TL.cutEnd (by repeat (first | exact Same.refl _ _ | refine Same.put rfl ?_)) rfl ?_
              first | (simp; done) | (simp_all; done)
          refine TC.ret ?_
          exact ret_bool rfl (by simp)
end Go.Ob
