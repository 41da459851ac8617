import Derived.Test.YtcfnfioefbkamaaDoorS13
set_option linter.unusedVariables false
set_option linter.unusedSimpArgs false
namespace Go.Ob
open Go.Proofs
set_option maxHeartbeats 1000000 in
set_option maxRecDepth 100000 in
theorem SegmentVisits_spec (s : ByteArray) : Fun Tryd.prog 10 [.v (.string s)] (.v (.bool true)) := by
  refine Fun.enter (n := 112) (rs := [.tmp 2]) Tryd.func10 rfl Tryd.ntmps10 Tryd.results10 rfl (fun w F => ?_); refine TC.seq ?_; refine TC.region ?_; refine TL.run1 (pure_assign rfl) rfl ?_; refine TL.nil' ?_; refine TC.seq ?_; refine TC.region ?_; refine TL.run1 (pure_move rfl) rfl ?_; refine TL.run1 (pure_call (short_spec s) (.cons rfl .nil) Tryd.call12) rfl ?_; refine TL.run1 (pure_assign rfl) rfl ?_; refine TL.nil' ?_; refine TC.seq ?_
  obtain ⟨c, hcd⟩ : ∃ c, shortS s = c := ⟨_, rfl⟩
  rw [hcd]
  have hcs : c.size ≤ 240 := hcd ▸ shortS_size s
  refine TC.region ?_; refine TL.run1 (pure_move rfl) rfl ?_; refine TL.run1 (pure_call (R3Tokens_spec c (by omega)) (.cons rfl .nil) Tryd.call14) rfl ?_; refine TL.run1 (pure_move rfl) rfl ?_; (iterate 2 refine TL.run1 (pure_extract rfl rfl) rfl ?_); (iterate 2 refine TL.run1 (pure_assign rfl) rfl ?_); refine TL.nil' ?_; refine TC.seq ?_; refine TC.regionCut [21, 22, 23, 24, 25, 26] 26 (okS c = false) ?_ ?_
  · skip
    refine TL.run1 (pure_call (known_spec) .nil Tryd.call15) rfl ?_; refine TL.run1 (pure_not rfl) rfl ?_; refine TL.run1 (pure_move rfl) rfl ?_; refine TL.split 23 rfl (fun hg23 => ?_) (fun hg23 => ?_)
    · try dsimp only at hg23
      (iterate 2 refine TL.passG rfl rfl rfl rfl ?_); refine TL.run1 (pure_pick_true rfl rfl) rfl ?_; refine TL.cutEnd (by repeat (first | exact Same.refl _ _ | refine Same.put rfl ?_)) rfl ?_
      first | (simp_all; done) | grind
    · try dsimp only at hg23
      refine TL.runG rfl rfl (pure_move rfl) rfl ?_; refine TL.runG rfl rfl (pure_not rfl) rfl ?_; refine TL.run1 (pure_pick_false rfl rfl) rfl ?_; refine TL.cutEnd (by repeat (first | exact Same.refl _ _ | refine Same.put rfl ?_)) rfl ?_
      first | (simp_all; done) | grind
  refine TC.condD rfl (fun hc26 => ?_) (fun hc26 => ?_)
  · try dsimp only at hc26
    have hok : okS c = false := hc26
    refine TC.seq ?_; refine TC.region ?_; refine TL.run1 (pure_call (known_spec) .nil Tryd.call15) rfl ?_; refine TL.run1 (pure_assign rfl) rfl ?_; refine TL.nil' ?_; refine TC.ret ?_; refine then_ret ?_
    exact ret_bool rfl rfl
  · try dsimp only at hc26
    have hok : okS c = true := by (cases h : okS c with | true => rfl | false => exact absurd h hc26)
    have hto := tok_ok hok
    have htv : tokV c = encTk (scL c) (bnds (cls c)) := by unfold tokV; rw [if_pos hok]
    rw [htv]
    have htl := encTk_len (scL c) (bnds (cls c))
    have hntl : (nT (scL c)) ≤ 1000 := by (have h1 := nT_le (scL c); rw [scL_len] at h1; have h2 := cAll_len_le (cls c); rw [cls_len] at h2; have := nR_le c; omega)
    have hnr : nR c ≤ 240 := by have := nR_le c; omega
    refine TC.skip' ?_; refine TC.seq ?_; refine TC.region ?_; refine TL.run1 (pure_assign rfl) rfl ?_; refine TL.nil' ?_; (iterate 2 refine TC.seq ?_); refine TC.region ?_; refine TL.run1 (pure_assign rfl) rfl ?_; refine TL.nil' ?_; refine TC.block ?_; refine TC.loopX (X := Nat) (fun i => [(0, .v (.string c)), (3, .sl 3 (encTk (scL c) (bnds (cls c)))), (5, .v (.int .i64 (nw (scL c) (bnds (cls c)) i))), (6, .v (.int .i64 i))]) (fun i => []) (fun i => (i ≤ (nT (scL c)))) (fun i => (nT (scL c)) - i) (0) ⟨by skip; repeat (first | exact Agree.nil | refine Agree.cons rfl ?_), by skip; repeat (first | exact List.nil_sublist _ | exact List.Sublist.refl _ | apply List.Sublist.cons_cons | apply List.Sublist.cons)⟩ ?_ ?_
    · skip
      exact Nat.zero_le _
    intro i
    intro h1
    show TC _ _ _ (Env.of [(0, .v (.string c)), (3, .sl 3 (encTk (scL c) (bnds (cls c)))), (5, .v (.int .i64 (nw (scL c) (bnds (cls c)) i))), (6, .v (.int .i64 i))]) []
    (iterate 2 refine TC.seq ?_); refine TC.region ?_; (iterate 2 refine TL.run1 (pure_move rfl) rfl ?_); refine TL.run1 (pure_len Ty.sl27 rfl) rfl ?_; refine TL.run1 (pure_lss rfl rfl) rfl ?_; refine TL.nil' ?_; refine TC.condD rfl (fun hc31 => ?_) (fun hc31 => ?_)
    · try dsimp only at hc31
      refine TC.skip' ?_; refine TC.seq ?_; refine TC.block ?_; refine TC.seq ?_
      have hii : i < (nT (scL c)) := by omega
      have hrow := tkr (scL c) (bnds (cls c)) i hii
      refine TC.regionCut [34, 35, 36, 37, 38, 39, 40, 41, 42, 43, 44, 45, 46, 47] 47 ((kT (scL c) i) = 3 ∨ (fT (scL c) (bnds (cls c)) i) = 0) ?_ ?_
      · skip
        (iterate 2 refine TL.run1 (pure_move rfl) rfl ?_); refine TL.run1 (pure_indexAddr Ty.sl27 rfl rfl (by omega) hrow (List.cons_ne_nil _ _)) rfl ?_; refine TL.run1 (pure_fieldAddr Ty.f33_0 rfl (.zero _) (List.cons_ne_nil _ _)) rfl ?_; refine TL.run1 (pure_load1 Ty.one3 rfl) rfl ?_; refine TL.run1 (pure_eql rfl rfl) rfl ?_; refine TL.run1 (pure_move rfl) rfl ?_; refine TL.splitP 40 rfl (fun hg40 => ?_) (fun hg40 => ?_)
        · try dsimp only at hg40
          (iterate 6 refine TL.passG rfl rfl rfl rfl ?_); refine TL.run1 (pure_pick_true rfl rfl) rfl ?_; refine TL.cutEnd (by repeat (first | exact Same.refl _ _ | refine Same.put rfl ?_)) rfl ?_
          first | (simp only [decide_eq_true_eq, Bool.false_eq_true, false_iff, true_iff, iff_true, iff_false, Bool.not_eq_true]; omega) | (simp_all; done) | (simp_all; omega) | grind
        · try dsimp only at hg40
          (iterate 2 refine TL.runG rfl rfl (pure_move rfl) rfl ?_); refine TL.runG rfl rfl (pure_indexAddr Ty.sl27 rfl rfl (by omega) hrow (List.cons_ne_nil _ _)) rfl ?_; refine TL.runG rfl rfl (pure_fieldAddr Ty.f33_1 rfl (.succ (.zero _)) (List.cons_ne_nil _ _)) rfl ?_; refine TL.runG rfl rfl (pure_load1 Ty.one3 rfl) rfl ?_; refine TL.runG rfl rfl (pure_eql rfl rfl) rfl ?_; refine TL.run1 (pure_pick_false rfl rfl) rfl ?_; refine TL.cutEnd (by repeat (first | exact Same.refl _ _ | refine Same.put rfl ?_)) rfl ?_
          first | (simp only [decide_eq_true_eq, Bool.false_eq_true, false_iff, true_iff, iff_true, iff_false, Bool.not_eq_true]; omega) | (simp_all; done) | (simp_all; omega) | grind
      refine TC.condD rfl (fun hc47 => ?_) (fun hc47 => ?_)
      · try dsimp only at hc47
        refine TC.exit ?_; refine then_exit ?_; refine block_here ?_; refine then_normal ?_; refine TC.region ?_; refine TL.run1 (pure_move rfl) rfl ?_; refine TL.run1 (pure_add rfl rfl (mkI64 (by omega) (by omega))) rfl ?_; refine TL.run1 (pure_assign rfl) rfl ?_; refine TL.nil ?_
        have hst : (nw (scL c) (bnds (cls c)) (i + 1)) = (nw (scL c) (bnds (cls c)) i) := by rw [nw, if_pos hc47]
        refine loop_next (i + 1) ⟨by ((try dsimp only); rw [hst, show (((i + 1 : Nat)) : Int) = (i : Int) + 1 by omega]; repeat (first | exact Agree.nil | refine Agree.cons rfl ?_)), by repeat (first | exact List.nil_sublist _ | exact List.Sublist.refl _ | apply List.Sublist.cons_cons | apply List.Sublist.cons)⟩ (show i + 1 ≤ _ by omega) (by omega)
      · try dsimp only at hc47
        obtain ⟨n1, n2⟩ := next_at hok hii (fun h => hc47 (.inl h)) (fun h => hc47 (.inr h))
        refine TC.skip' ?_; refine TC.seq ?_; refine TC.region ?_; (iterate 2 refine TL.run1 (pure_move rfl) rfl ?_); refine TL.run1 (pure_call (SNext_spec c (nw (scL c) (bnds (cls c)) i) (by omega)) (.cons rfl (.cons rfl .nil)) Tryd.call27) rfl ?_; refine TL.run1 (pure_move rfl) rfl ?_; (iterate 2 refine TL.run1 (pure_extract rfl rfl) rfl ?_); (iterate 2 refine TL.run1 (pure_assign rfl) rfl ?_); refine TL.nil' ?_; refine TC.seq ?_
        rw [n1, n2]
        refine TC.regionCut [54, 55, 56, 57, 58, 59, 60, 61, 62, 63, 64] 64 (False) ?_ ?_
        · skip
          refine TL.run1 (pure_move rfl) rfl ?_; refine TL.run1 (pure_neq rfl rfl) rfl ?_; refine TL.run1 (pure_move rfl) rfl ?_; refine TL.splitP 56 rfl (fun hg56 => ?_) (fun hg56 => ?_)
          · try dsimp only at hg56
            (iterate 7 refine TL.passG rfl rfl rfl rfl ?_); refine TL.run1 (pure_pick_true rfl rfl) rfl ?_; refine TL.cutEnd (by repeat (first | exact Same.refl _ _ | refine Same.put rfl ?_)) rfl ?_
            first | (simp; done) | (simp_all; done)
          · try dsimp only at hg56
            (iterate 3 refine TL.runG rfl rfl (pure_move rfl) rfl ?_); refine TL.runG rfl rfl (pure_indexAddr Ty.sl27 rfl rfl (by omega) hrow (List.cons_ne_nil _ _)) rfl ?_; refine TL.runG rfl rfl (pure_fieldAddr Ty.f33_1 rfl (.succ (.zero _)) (List.cons_ne_nil _ _)) rfl ?_; refine TL.runG rfl rfl (pure_load1 Ty.one3 rfl) rfl ?_; refine TL.runG rfl rfl (pure_neq rfl rfl) rfl ?_; refine TL.run1 (pure_pick_false rfl rfl) rfl ?_; refine TL.cutEnd (by repeat (first | exact Same.refl _ _ | refine Same.put rfl ?_)) rfl ?_
            first | (simp; done) | (simp_all; done)
        refine TC.condD rfl (fun hc64 => ?_) (fun hc64 => ?_)
        · try dsimp only at hc64
          all_goals exact hc64.elim
        · try dsimp only at hc64
          refine TC.skip' ?_; refine TC.region ?_; refine TL.run1 (pure_move rfl) rfl ?_; refine TL.run1 (pure_assign rfl) rfl ?_; refine TL.nil ?_; refine block_normal ?_; refine then_normal ?_; refine TC.region ?_; refine TL.run1 (pure_move rfl) rfl ?_; refine TL.run1 (pure_add rfl rfl (mkI64 (by omega) (by omega))) rfl ?_; refine TL.run1 (pure_assign rfl) rfl ?_; refine TL.nil ?_
          have hst : (nw (scL c) (bnds (cls c)) (i + 1)) = (fT (scL c) (bnds (cls c)) i) := by rw [nw, if_neg hc47]
          refine loop_next (i + 1) ⟨by ((try dsimp only); rw [hst, show (((i + 1 : Nat)) : Int) = (i : Int) + 1 by omega]; repeat (first | exact Agree.nil | refine Agree.cons rfl ?_)), by repeat (first | exact List.nil_sublist _ | exact List.Sublist.refl _ | apply List.Sublist.cons_cons | apply List.Sublist.cons)⟩ (show i + 1 ≤ _ by omega) (by omega)
    · try dsimp only at hc31
      refine TC.exit ?_; refine then_exit ?_; refine loop_exit ?_; refine block_here ?_; refine then_normal ?_; refine TC.seq ?_
      have hie : i = (nT (scL c)) := by omega
      rw [hie]
      obtain ⟨n1, n2⟩ := next_end hok
      refine TC.region ?_; (iterate 2 refine TL.run1 (pure_move rfl) rfl ?_); refine TL.run1 (pure_call (SNext_spec c (nw (scL c) (bnds (cls c)) (nT (scL c))) (by omega)) (.cons rfl (.cons rfl .nil)) Tryd.call27) rfl ?_; refine TL.run1 (pure_move rfl) rfl ?_; (iterate 2 refine TL.run1 (pure_extract rfl rfl) rfl ?_); (iterate 2 refine TL.run1 (pure_assign rfl) rfl ?_); refine TL.nil' ?_; refine TC.seq ?_
      rw [n1, n2]
      refine TC.regionCut [72, 73, 74, 75, 76, 77, 78, 79] 79 (False) ?_ ?_
      · skip
        refine TL.run1 (pure_move rfl) rfl ?_; refine TL.run1 (pure_neq rfl rfl) rfl ?_; refine TL.run1 (pure_move rfl) rfl ?_; refine TL.splitP 74 rfl (fun hg74 => ?_) (fun hg74 => ?_)
        · try dsimp only at hg74
          (iterate 4 refine TL.passG rfl rfl rfl rfl ?_); refine TL.run1 (pure_pick_true rfl rfl) rfl ?_; refine TL.cutEnd (by repeat (first | exact Same.refl _ _ | refine Same.put rfl ?_)) rfl ?_
          first | (simp; done) | (simp_all; done)
        · try dsimp only at hg74
          (iterate 2 refine TL.runG rfl rfl (pure_move rfl) rfl ?_); refine TL.runG rfl rfl (pure_call (size_spec c hok (by omega)) (.cons rfl .nil) Tryd.call20) rfl ?_; refine TL.runG rfl rfl (pure_neq rfl rfl) rfl ?_; refine TL.run1 (pure_pick_false rfl rfl) rfl ?_; refine TL.cutEnd (by repeat (first | exact Same.refl _ _ | refine Same.put rfl ?_)) rfl ?_
          first | (simp; done) | (simp_all; done)
      refine TC.condD rfl (fun hc79 => ?_) (fun hc79 => ?_)
      · try dsimp only at hc79
        all_goals exact hc79.elim
      · try dsimp only at hc79
        refine TC.skip' ?_; refine TC.seq ?_; refine TC.region ?_; refine TL.run1 (pure_move rfl) rfl ?_; refine TL.run1 (pure_assign rfl) rfl ?_; refine TL.nil' ?_; (iterate 2 refine TC.seq ?_); refine TC.region ?_; refine TL.run1 (pure_move rfl) rfl ?_; refine TL.run1 (pure_len Ty.sl27 rfl) rfl ?_; refine TL.run1 (pure_sub rfl rfl (mkI64 (by omega) (by omega))) rfl ?_; refine TL.run1 (pure_assign rfl) rfl ?_; refine TL.nil' ?_; refine TC.block ?_; refine TC.loopX (X := Nat) (fun m => [(0, .v (.string c)), (3, .sl 3 (encTk (scL c) (bnds (cls c)))), (5, .v (.int .i64 (bw (scL c) (bnds (cls c)) (nR c) m))), (11, .v (.int .i64 (((nT (scL c)) : Int) - 1 - m)))]) (fun m => []) (fun m => (m ≤ (nT (scL c)))) (fun m => (nT (scL c)) - m) (0) ⟨by (try dsimp only); rw [show (((nT (scL c)) : Int) - 1 - ((0 : Nat) : Int)) = ((encTk (scL c) (bnds (cls c))).length : Int) - 1 by omega]; repeat (first | exact Agree.nil | refine Agree.cons rfl ?_), by skip; repeat (first | exact List.nil_sublist _ | exact List.Sublist.refl _ | apply List.Sublist.cons_cons | apply List.Sublist.cons)⟩ ?_ ?_
        · skip
          exact Nat.zero_le _
        intro m
        intro h1
        show TC _ _ _ (Env.of [(0, .v (.string c)), (3, .sl 3 (encTk (scL c) (bnds (cls c)))), (5, .v (.int .i64 (bw (scL c) (bnds (cls c)) (nR c) m))), (11, .v (.int .i64 (((nT (scL c)) : Int) - 1 - m)))]) []
        (iterate 2 refine TC.seq ?_); refine TC.region ?_; refine TL.run1 (pure_move rfl) rfl ?_; refine TL.run1 (pure_geq rfl rfl) rfl ?_; refine TL.nil' ?_; refine TC.condD rfl (fun hc85 => ?_) (fun hc85 => ?_)
        · try dsimp only at hc85
          refine TC.skip' ?_; refine TC.seq ?_; refine TC.block ?_; (iterate 2 refine TC.seq ?_)
          have hjn : ((nT (scL c)) - 1 - m) < (nT (scL c)) := by omega
          have hrow : (encTk (scL c) (bnds (cls c)))[(((nT (scL c)) : Int) - 1 - m).toNat]? = some [.v (.int .i64 (kT (scL c) ((nT (scL c)) - 1 - m))), .v (.int .i64 (fT (scL c) (bnds (cls c)) ((nT (scL c)) - 1 - m))), .v (.int .i64 (fT (scL c) (bnds (cls c)) (((nT (scL c)) - 1 - m) + 1)))] := by (rw [show (((nT (scL c)) : Int) - 1 - m) = ((((nT (scL c)) - 1 - m) : Nat) : Int) by omega]; exact tkr (scL c) (bnds (cls c)) ((nT (scL c)) - 1 - m) hjn)
          refine TC.region ?_; (iterate 2 refine TL.run1 (pure_move rfl) rfl ?_); refine TL.run1 (pure_indexAddr Ty.sl27 rfl rfl (by omega) hrow (List.cons_ne_nil _ _)) rfl ?_; refine TL.run1 (pure_fieldAddr Ty.f33_0 rfl (.zero _) (List.cons_ne_nil _ _)) rfl ?_; refine TL.run1 (pure_load1 Ty.one3 rfl) rfl ?_; refine TL.run1 (pure_eql rfl rfl) rfl ?_; refine TL.nil' ?_; refine TC.condD rfl (fun hc93 => ?_) (fun hc93 => ?_)
          · try dsimp only at hc93
            refine TC.exit ?_; refine then_exit ?_; refine block_here ?_; refine then_normal ?_; refine TC.region ?_; refine TL.run1 (pure_move rfl) rfl ?_; refine TL.run1 (pure_sub rfl rfl (mkI64 (by omega) (by omega))) rfl ?_; refine TL.run1 (pure_assign rfl) rfl ?_; refine TL.nil ?_
            have hst : (bw (scL c) (bnds (cls c)) (nR c) (m + 1)) = (bw (scL c) (bnds (cls c)) (nR c) m) := by rw [bw, if_pos hc93]
            refine loop_next (m + 1) ⟨by ((try dsimp only); rw [hst, show (((nT (scL c)) : Int) - 1 - ((m + 1 : Nat) : Int)) = (((nT (scL c)) : Int) - 1 - m) - 1 by omega]; repeat (first | exact Agree.nil | refine Agree.cons rfl ?_)), by repeat (first | exact List.nil_sublist _ | exact List.Sublist.refl _ | apply List.Sublist.cons_cons | apply List.Sublist.cons)⟩ (show m + 1 ≤ _ by omega) (by omega)
          · try dsimp only at hc93
            obtain ⟨n1, n2⟩ := prev_at hok (show m < nT (scL c) by omega) hc93
            refine TC.skip' ?_; refine TC.seq ?_; refine TC.region ?_; (iterate 2 refine TL.run1 (pure_move rfl) rfl ?_); refine TL.run1 (pure_call (SPrev_spec c (bw (scL c) (bnds (cls c)) (nR c) m) (by omega)) (.cons rfl (.cons rfl .nil)) Tryd.call28) rfl ?_; refine TL.run1 (pure_move rfl) rfl ?_; (iterate 2 refine TL.run1 (pure_extract rfl rfl) rfl ?_); (iterate 2 refine TL.run1 (pure_assign rfl) rfl ?_); refine TL.nil' ?_; refine TC.seq ?_
            rw [n1, n2]
            refine TC.regionCut [100, 101, 102, 103, 104, 105, 106, 107, 108, 109, 110] 110 (False) ?_ ?_
            · skip
              refine TL.run1 (pure_move rfl) rfl ?_; refine TL.run1 (pure_neq rfl rfl) rfl ?_; refine TL.run1 (pure_move rfl) rfl ?_; refine TL.splitP 102 rfl (fun hg102 => ?_) (fun hg102 => ?_)
              · try dsimp only at hg102
                (iterate 7 refine TL.passG rfl rfl rfl rfl ?_); refine TL.run1 (pure_pick_true rfl rfl) rfl ?_; refine TL.cutEnd (by repeat (first | exact Same.refl _ _ | refine Same.put rfl ?_)) rfl ?_
                first | (simp; done) | (simp_all; done)
              · try dsimp only at hg102
                (iterate 3 refine TL.runG rfl rfl (pure_move rfl) rfl ?_); refine TL.runG rfl rfl (pure_indexAddr Ty.sl27 rfl rfl (by omega) hrow (List.cons_ne_nil _ _)) rfl ?_; refine TL.runG rfl rfl (pure_fieldAddr Ty.f33_1 rfl (.succ (.zero _)) (List.cons_ne_nil _ _)) rfl ?_; refine TL.runG rfl rfl (pure_load1 Ty.one3 rfl) rfl ?_; refine TL.runG rfl rfl (pure_neq rfl rfl) rfl ?_; refine TL.run1 (pure_pick_false rfl rfl) rfl ?_; refine TL.cutEnd (by repeat (first | exact Same.refl _ _ | refine Same.put rfl ?_)) rfl ?_
                first | (simp; done) | (simp_all; done)
            refine TC.condD rfl (fun hc110 => ?_) (fun hc110 => ?_)
            · try dsimp only at hc110
              all_goals exact hc110.elim
            · try dsimp only at hc110
              refine TC.skip' ?_; refine TC.region ?_; refine TL.run1 (pure_move rfl) rfl ?_; refine TL.run1 (pure_assign rfl) rfl ?_; refine TL.nil ?_; refine block_normal ?_; refine then_normal ?_; refine TC.region ?_; refine TL.run1 (pure_move rfl) rfl ?_; refine TL.run1 (pure_sub rfl rfl (mkI64 (by omega) (by omega))) rfl ?_; refine TL.run1 (pure_assign rfl) rfl ?_; refine TL.nil ?_
              have hst : (bw (scL c) (bnds (cls c)) (nR c) (m + 1)) = (fT (scL c) (bnds (cls c)) ((nT (scL c)) - 1 - m)) := by rw [bw, if_neg hc93]
              refine loop_next (m + 1) ⟨by ((try dsimp only); rw [hst, show (((nT (scL c)) : Int) - 1 - ((m + 1 : Nat) : Int)) = (((nT (scL c)) : Int) - 1 - m) - 1 by omega]; repeat (first | exact Agree.nil | refine Agree.cons rfl ?_)), by repeat (first | exact List.nil_sublist _ | exact List.Sublist.refl _ | apply List.Sublist.cons_cons | apply List.Sublist.cons)⟩ (show m + 1 ≤ _ by omega) (by omega)
        · try dsimp only at hc85
          refine TC.exit ?_; refine then_exit ?_; refine loop_exit ?_; refine block_here ?_; refine then_normal ?_; refine TC.seq ?_; refine TC.region ?_; refine TL.run1 (pure_assign rfl) rfl ?_; refine TL.nil' ?_; refine TC.ret ?_
          exact ret_bool rfl rfl
end Go.Ob
