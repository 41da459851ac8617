import Derived.Test.YtcfnfioefbkamaaDoorK4
import Derived.Test.YtcfnfioefbkamaaDoorN
set_option linter.unusedVariables false
set_option linter.unusedSimpArgs false
namespace Go.Ob
open Go.Proofs
set_option maxRecDepth 100000 in
theorem joined_spec (c : List Int) (k : Nat) (h1 : 1 ≤ k) (h2 : k < c.length) (hl : c.length ≤ 1000000000) : Fun Tryd.prog 62 [.sl 1 (encI c), .v (.int .i64 k)] (.v (.bool (stL c k).picd)) := by
  refine Fun.enter (n := 36) (rs := [.tmp 4]) Tryd.func62 rfl Tryd.ntmps62 Tryd.results62 rfl (fun w F => ?_)
  have hkc := encI_len c
  refine TC.seq ?_; refine TC.region ?_; refine TL.run1 (pure_assign rfl) rfl ?_; refine TL.nil' ?_; refine TC.seq ?_; refine TC.region ?_; refine TL.run1 (pure_move rfl) rfl ?_; refine TL.run1 (pure_sub rfl rfl (mkI64 (by omega) (by omega))) rfl ?_; refine TL.run1 (pure_assign rfl) rfl ?_; refine TL.nil' ?_; refine TC.seq ?_; refine TC.block ?_; refine TC.loopX (X := Int) (fun i => [(0, .sl 1 (encI c)), (1, .v (.int .i64 k)), (5, .v (.int .i64 i))]) (fun i => []) (fun i => (-1 ≤ i) ∧ (i ≤ (k : Int) - 2) ∧ ((stL c (k - 1)).pic = (stL c (i + 1).toNat).pic)) (fun i => (i + 1).toNat) ((k : Int) - 2) ⟨by skip; repeat (first | exact Agree.nil | refine Agree.cons rfl ?_), by skip; repeat (first | exact List.nil_sublist _ | exact List.Sublist.refl _ | apply List.Sublist.cons_cons | apply List.Sublist.cons)⟩ ?_ ?_
  · skip
    exact ⟨by omega, by omega, by rw [show ((k : Int) - 2 + 1).toNat = k - 1 by omega]⟩
  intro i
  rintro ⟨i0, i1, i2⟩
  show TC _ _ _ (Env.of [(0, .sl 1 (encI c)), (1, .v (.int .i64 k)), (5, .v (.int .i64 i))]) []
  refine TC.seq ?_; refine TC.regionCut [8, 9, 10, 11, 12, 13, 14, 15, 16] 16 (i ≥ 0 ∧ iAt c i = 4) ?_ ?_
  · skip
    refine TL.run1 (pure_move rfl) rfl ?_; refine TL.run1 (pure_geq rfl rfl) rfl ?_; refine TL.run1 (pure_move rfl) rfl ?_; refine TL.splitP 10 rfl (fun hg10 => ?_) (fun hg10 => ?_)
    · try dsimp only at hg10
      have hrow := encI_get c i (by omega) (by omega)
      (iterate 2 refine TL.runG rfl rfl (pure_move rfl) rfl ?_); refine TL.runG rfl rfl (pure_indexAddr Ty.sl35 rfl rfl (by omega) (by assumption) (List.cons_ne_nil _ _)) rfl ?_; refine TL.runG rfl rfl (pure_load1 Ty.one3 rfl) rfl ?_; refine TL.runG rfl rfl (pure_eql rfl rfl) rfl ?_; refine TL.run1 (pure_pick_true rfl rfl) rfl ?_; refine TL.cutEnd (by repeat (first | exact Same.refl _ _ | refine Same.put rfl ?_)) rfl ?_
      first | (simp only [decide_eq_true_eq, Bool.false_eq_true, false_iff, true_iff, iff_true, iff_false, Bool.not_eq_true]; omega) | (simp_all; done) | (simp_all; omega) | grind
    · try dsimp only at hg10
      (iterate 5 refine TL.passG rfl rfl rfl rfl ?_); refine TL.run1 (pure_pick_false rfl rfl) rfl ?_; refine TL.cutEnd (by repeat (first | exact Same.refl _ _ | refine Same.put rfl ?_)) rfl ?_
      first | (simp only [decide_eq_true_eq, Bool.false_eq_true, false_iff, true_iff, iff_true, iff_false, Bool.not_eq_true]; omega) | (simp_all; done) | (simp_all; omega) | grind
  refine TC.condD rfl (fun hc16 => ?_) (fun hc16 => ?_)
  · try dsimp only at hc16
    refine TC.skip' ?_; refine TC.block ?_; refine TC.region ?_; refine TL.run1 (pure_move rfl) rfl ?_; refine TL.run1 (pure_sub rfl rfl (mkI64 (by omega) (by omega))) rfl ?_; refine TL.run1 (pure_assign rfl) rfl ?_; refine TL.nil ?_; refine block_normal ?_; refine loop_next (i - 1) ⟨by repeat (first | exact Agree.nil | refine Agree.cons rfl ?_), by repeat (first | exact List.nil_sublist _ | exact List.Sublist.refl _ | apply List.Sublist.cons_cons | apply List.Sublist.cons)⟩ ⟨by omega, by omega, joined_step hc16.1 i2 hc16.2⟩ (by omega)
  · try dsimp only at hc16
    refine TC.exit ?_; refine then_exit ?_; refine loop_exit ?_; refine block_here ?_; refine then_normal ?_
    have hrow := encI_get c ((k : Int) - 1) (by omega) (by omega)
    have hje := joined_end h1 i0 i1 i2 hc16
    refine TC.regionCut [19, 20, 21, 22, 23, 24, 25, 26, 27, 28, 29, 30, 31, 32, 33, 34, 35, 4] 4 (iAt c ((k : Int) - 1) = 5 ∧ i ≥ 0 ∧ iAt c i = 14) ?_ ?_
    · skip
      (iterate 2 refine TL.run1 (pure_move rfl) rfl ?_); refine TL.run1 (pure_sub rfl rfl (mkI64 (by omega) (by omega))) rfl ?_; refine TL.run1 (pure_indexAddr Ty.sl35 rfl rfl (by omega) (by assumption) (List.cons_ne_nil _ _)) rfl ?_; refine TL.run1 (pure_load1 Ty.one3 rfl) rfl ?_; refine TL.run1 (pure_eql rfl rfl) rfl ?_; refine TL.run1 (pure_move rfl) rfl ?_; refine TL.splitP 25 rfl (fun hg25 => ?_) (fun hg25 => ?_)
      · try dsimp only at hg25
        refine TL.runG rfl rfl (pure_move rfl) rfl ?_; refine TL.runG rfl rfl (pure_geq rfl rfl) rfl ?_; refine TL.run1 (pure_pick_true rfl rfl) rfl ?_; refine TL.run1 (pure_move rfl) rfl ?_; refine TL.splitP 29 rfl (fun hg29 => ?_) (fun hg29 => ?_)
        · try dsimp only at hg29
          have hrow2 := encI_get c i (by omega) (by omega)
          (iterate 2 refine TL.runG rfl rfl (pure_move rfl) rfl ?_); refine TL.runG rfl rfl (pure_indexAddr Ty.sl35 rfl rfl (by omega) (by assumption) (List.cons_ne_nil _ _)) rfl ?_; refine TL.runG rfl rfl (pure_load1 Ty.one3 rfl) rfl ?_; refine TL.runG rfl rfl (pure_eql rfl rfl) rfl ?_; refine TL.run1 (pure_pick_true rfl rfl) rfl ?_; refine TL.run1 (pure_assign rfl) rfl ?_; refine TL.cutEnd (by repeat (first | exact Same.refl _ _ | refine Same.put rfl ?_)) rfl ?_
          first | (simp only [decide_eq_true_eq, Bool.false_eq_true, false_iff, true_iff, iff_true, iff_false, Bool.not_eq_true]; omega) | (simp_all; done) | (simp_all; omega) | grind
        · try dsimp only at hg29
          (iterate 5 refine TL.passG rfl rfl rfl rfl ?_); refine TL.run1 (pure_pick_false rfl rfl) rfl ?_; refine TL.run1 (pure_assign rfl) rfl ?_; refine TL.cutEnd (by repeat (first | exact Same.refl _ _ | refine Same.put rfl ?_)) rfl ?_
          first | (simp only [decide_eq_true_eq, Bool.false_eq_true, false_iff, true_iff, iff_true, iff_false, Bool.not_eq_true]; omega) | (simp_all; done) | (simp_all; omega) | grind
      · try dsimp only at hg25
        (iterate 2 refine TL.passG rfl rfl rfl rfl ?_); refine TL.run1 (pure_pick_false rfl rfl) rfl ?_; refine TL.run1 (pure_move rfl) rfl ?_; (iterate 5 refine TL.passG rfl rfl rfl rfl ?_); refine TL.run1 (pure_pick_false rfl rfl) rfl ?_; refine TL.run1 (pure_assign rfl) rfl ?_; refine TL.cutEnd (by repeat (first | exact Same.refl _ _ | refine Same.put rfl ?_)) rfl ?_
        first | (simp only [decide_eq_true_eq, Bool.false_eq_true, false_iff, true_iff, iff_true, iff_false, Bool.not_eq_true]; omega) | (simp_all; done) | (simp_all; omega) | grind
    refine TC.ret ?_
    exact ret_bool rfl hje.symm
set_option maxRecDepth 100000 in
theorem regionals_spec (c : List Int) (k : Nat) (h1 : 1 ≤ k) (h2 : k < c.length) (hl : c.length ≤ 1000000000) : Fun Tryd.prog 63 [.sl 1 (encI c), .v (.int .i64 k)] (.v (.int .i64 (stL c k).reg)) := by
  refine Fun.enter (n := 22) (rs := [.tmp 4]) Tryd.func63 rfl Tryd.ntmps63 Tryd.results63 rfl (fun w F => ?_)
  have hkc := encI_len c
  refine TC.seq ?_; refine TC.region ?_; refine TL.run1 (pure_assign rfl) rfl ?_; refine TL.nil' ?_; refine TC.seq ?_; refine TC.region ?_; refine TL.run1 (pure_assign rfl) rfl ?_; refine TL.nil' ?_; refine TC.seq ?_; refine TC.block ?_; refine TC.loopX (X := Int) (fun n => [(0, .sl 1 (encI c)), (1, .v (.int .i64 k)), (5, .v (.int .i64 n))]) (fun n => []) (fun n => (0 ≤ n) ∧ (n ≤ k) ∧ ((stL c k).reg = n + (stL c ((k : Int) - n).toNat).reg)) (fun n => ((k : Int) - n).toNat) (0) ⟨by skip; repeat (first | exact Agree.nil | refine Agree.cons rfl ?_), by skip; repeat (first | exact List.nil_sublist _ | exact List.Sublist.refl _ | apply List.Sublist.cons_cons | apply List.Sublist.cons)⟩ ?_ ?_
  · skip
    exact ⟨by omega, by omega, by rw [show ((k : Int) - 0).toNat = k by omega]; omega⟩
  intro n
  rintro ⟨n0, n1, n2⟩
  show TC _ _ _ (Env.of [(0, .sl 1 (encI c)), (1, .v (.int .i64 k)), (5, .v (.int .i64 n))]) []
  refine TC.seq ?_; refine TC.regionCut [6, 7, 8, 9, 10, 11, 12, 13, 14, 15, 16, 17, 18] 18 (n < k ∧ iAt c ((k : Int) - 1 - n) = 13) ?_ ?_
  · skip
    (iterate 2 refine TL.run1 (pure_move rfl) rfl ?_); refine TL.run1 (pure_lss rfl rfl) rfl ?_; refine TL.run1 (pure_move rfl) rfl ?_; refine TL.splitP 9 rfl (fun hg9 => ?_) (fun hg9 => ?_)
    · try dsimp only at hg9
      have hrow := encI_get c ((k : Int) - 1 - n) (by omega) (by omega)
      (iterate 2 refine TL.runG rfl rfl (pure_move rfl) rfl ?_); refine TL.runG rfl rfl (pure_sub rfl rfl (mkI64 (by omega) (by omega))) rfl ?_; refine TL.runG rfl rfl (pure_move rfl) rfl ?_; refine TL.runG rfl rfl (pure_sub rfl rfl (mkI64 (by omega) (by omega))) rfl ?_; refine TL.runG rfl rfl (pure_indexAddr Ty.sl35 rfl rfl (by omega) (by assumption) (List.cons_ne_nil _ _)) rfl ?_; refine TL.runG rfl rfl (pure_load1 Ty.one3 rfl) rfl ?_; refine TL.runG rfl rfl (pure_eql rfl rfl) rfl ?_; refine TL.run1 (pure_pick_true rfl rfl) rfl ?_; refine TL.cutEnd (by repeat (first | exact Same.refl _ _ | refine Same.put rfl ?_)) rfl ?_
      first | (simp only [decide_eq_true_eq, Bool.false_eq_true, false_iff, true_iff, iff_true, iff_false, Bool.not_eq_true]; omega) | (simp_all; done) | (simp_all; omega) | grind
    · try dsimp only at hg9
      (iterate 8 refine TL.passG rfl rfl rfl rfl ?_); refine TL.run1 (pure_pick_false rfl rfl) rfl ?_; refine TL.cutEnd (by repeat (first | exact Same.refl _ _ | refine Same.put rfl ?_)) rfl ?_
      first | (simp only [decide_eq_true_eq, Bool.false_eq_true, false_iff, true_iff, iff_true, iff_false, Bool.not_eq_true]; omega) | (simp_all; done) | (simp_all; omega) | grind
  refine TC.condD rfl (fun hc18 => ?_) (fun hc18 => ?_)
  · try dsimp only at hc18
    refine TC.skip' ?_; refine TC.block ?_; refine TC.region ?_; refine TL.run1 (pure_move rfl) rfl ?_; refine TL.run1 (pure_add rfl rfl (mkI64 (by omega) (by omega))) rfl ?_; refine TL.run1 (pure_assign rfl) rfl ?_; refine TL.nil ?_; refine block_normal ?_; refine loop_next (n + 1) ⟨by repeat (first | exact Agree.nil | refine Agree.cons rfl ?_), by repeat (first | exact List.nil_sublist _ | exact List.Sublist.refl _ | apply List.Sublist.cons_cons | apply List.Sublist.cons)⟩ ⟨by omega, by omega, reg_step n0 hc18.1 n2 hc18.2⟩ (by omega)
  · try dsimp only at hc18
    refine TC.exit ?_; refine then_exit ?_; refine loop_exit ?_; refine block_here ?_; refine then_normal ?_; refine TC.seq ?_; refine TC.region ?_; refine TL.run1 (pure_move rfl) rfl ?_; refine TL.run1 (pure_assign rfl) rfl ?_; refine TL.nil' ?_; refine TC.ret ?_
    exact ret_int rfl (reg_end n0 n1 n2 hc18).symm
set_option maxHeartbeats 2000000 in
set_option maxRecDepth 100000 in
theorem Rboundary_spec (c : List Int) (k : Nat) (h1 : 1 ≤ k) (h2 : k < c.length) (hl : c.length ≤ 1000000000) : Fun Tryd.prog 37 [.sl 1 (encI c), .v (.int .i64 k)] (.v (.bool (bAt c k))) := by
  refine Fun.enter (n := 64) (rs := [.tmp 4]) Tryd.func37 rfl Tryd.ntmps37 Tryd.results37 rfl (fun w F => ?_)
  have hkc := encI_len c
  have hrow := encI_get c ((k : Int) - 1) (by omega) (by omega)
  have hrow2 := encI_get c k (by omega) (by omega)
  have hrg := st_reg_range c k
  have hbk : bAt c k = bd (iAt c ((k : Int) - 1)) (iAt c k) (stL c k).picd (stL c k).reg := by (obtain ⟨m, rfl⟩ : ∃ m, k = m + 1 := ⟨k - 1, by omega⟩; unfold bAt; rw [st_before, show (((m + 1 : Nat) : Int) - 1) = (m : Int) by omega])
  have hpd : (stL c k).picd = true → iAt c ((k : Int) - 1) = 5 := by (obtain ⟨m, rfl⟩ : ∃ m, k = m + 1 := ⟨k - 1, by omega⟩; rw [st_picd, show (((m + 1 : Nat) : Int) - 1) = (m : Int) by omega]; intro h; exact (of_decide_eq_true h).1)
  refine TC.seq ?_; refine TC.region ?_; refine TL.run1 (pure_assign rfl) rfl ?_; refine TL.nil' ?_; refine TC.seq ?_; refine TC.draw Ty.follows (by kernel_rfl) ?_; (iterate 2 refine TD.run1 (pure_move rfl) rfl ?_); refine TD.run1 (pure_sub rfl rfl (mkI64 (by omega) (by omega))) rfl ?_; refine TD.run1 (pure_indexAddr Ty.sl35 rfl rfl (by omega) (by assumption) (List.cons_ne_nil _ _)) rfl ?_; refine TD.run1 (pure_load1 Ty.one3 rfl) rfl ?_; (iterate 2 refine TD.run1 (pure_move rfl) rfl ?_); refine TD.run1 (pure_indexAddr Ty.sl35 rfl rfl (by omega) (by assumption) (List.cons_ne_nil _ _)) rfl ?_; refine TD.run1 (pure_load1 Ty.one3 rfl) rfl ?_; (iterate 2 refine TD.run1 (pure_assign rfl) rfl ?_); refine TD.nil' ?_; refine TC.seq ?_; refine TC.block ?_; refine TC.regionCut [17, 18, 19, 20, 21, 22, 16] 16 (iAt c ((k : Int) - 1) = 1 ∧ iAt c k = 2) ?_ ?_
  · skip
    refine TL.run1 (pure_move rfl) rfl ?_; refine TL.run1 (pure_eql rfl rfl) rfl ?_; refine TL.run1 (pure_move rfl) rfl ?_; refine TL.splitP 19 rfl (fun hg19 => ?_) (fun hg19 => ?_)
    · try dsimp only at hg19
      refine TL.runG rfl rfl (pure_move rfl) rfl ?_; refine TL.runG rfl rfl (pure_eql rfl rfl) rfl ?_; refine TL.run1 (pure_pick_true rfl rfl) rfl ?_; refine TL.run1 (pure_assign rfl) rfl ?_; refine TL.cutEnd (by repeat (first | exact Same.refl _ _ | refine Same.put rfl ?_)) rfl ?_
      first | (simp only [decide_eq_true_eq, Bool.false_eq_true, false_iff, true_iff, iff_true, iff_false, Bool.not_eq_true]; omega) | (simp_all; done) | (simp_all; omega) | grind
    · try dsimp only at hg19
      (iterate 2 refine TL.passG rfl rfl rfl rfl ?_); refine TL.run1 (pure_pick_false rfl rfl) rfl ?_; refine TL.run1 (pure_assign rfl) rfl ?_; refine TL.cutEnd (by repeat (first | exact Same.refl _ _ | refine Same.put rfl ?_)) rfl ?_
      first | (simp only [decide_eq_true_eq, Bool.false_eq_true, false_iff, true_iff, iff_true, iff_false, Bool.not_eq_true]; omega) | (simp_all; done) | (simp_all; omega) | grind
  refine TC.condD rfl (fun hc16 => ?_) (fun hc16 => ?_)
  · try dsimp only at hc16
    refine TC.seq ?_; refine TC.region ?_; refine TL.run1 (pure_assign rfl) rfl ?_; refine TL.nil' ?_; refine TC.ret ?_; refine block_ret ?_; refine then_ret ?_
    exact ret_bool rfl (by rw [hbk]; unfold bd; rw [if_pos hc16])
  · try dsimp only at hc16
    refine TC.regionCut [24, 25, 26, 27, 28, 29, 23] 23 (Ctl (iAt c ((k : Int) - 1)) ∨ Ctl (iAt c k)) ?_ ?_
    · skip
      refine TL.run1 (pure_move rfl) rfl ?_; refine TL.run1 (pure_call (breaker_spec (iAt c ((k : Int) - 1))) (.cons rfl .nil) Tryd.call60) rfl ?_; refine TL.run1 (pure_move rfl) rfl ?_; refine TL.splitP 26 rfl (fun hg26 => ?_) (fun hg26 => ?_)
      · try dsimp only at hg26
        (iterate 2 refine TL.passG rfl rfl rfl rfl ?_); refine TL.run1 (pure_pick_true rfl rfl) rfl ?_; refine TL.run1 (pure_assign rfl) rfl ?_; refine TL.cutEnd (by repeat (first | exact Same.refl _ _ | refine Same.put rfl ?_)) rfl ?_
        first | (simp only [decide_eq_true_eq, Bool.false_eq_true, false_iff, true_iff, iff_true, iff_false, Bool.not_eq_true]; omega) | (simp_all; done) | (simp_all; omega) | grind
      · try dsimp only at hg26
        refine TL.runG rfl rfl (pure_move rfl) rfl ?_; refine TL.runG rfl rfl (pure_call (breaker_spec (iAt c k)) (.cons rfl .nil) Tryd.call60) rfl ?_; refine TL.run1 (pure_pick_false rfl rfl) rfl ?_; refine TL.run1 (pure_assign rfl) rfl ?_; refine TL.cutEnd (by repeat (first | exact Same.refl _ _ | refine Same.put rfl ?_)) rfl ?_
        first | (simp only [decide_eq_true_eq, Bool.false_eq_true, false_iff, true_iff, iff_true, iff_false, Bool.not_eq_true]; omega) | (simp_all; done) | (simp_all; omega) | grind
    refine TC.condD rfl (fun hc23 => ?_) (fun hc23 => ?_)
    · try dsimp only at hc23
      refine TC.seq ?_; refine TC.region ?_; refine TL.run1 (pure_assign rfl) rfl ?_; refine TL.nil' ?_; refine TC.ret ?_; refine block_ret ?_; refine then_ret ?_
      exact ret_bool rfl (by rw [hbk]; unfold bd; rw [if_neg hc16, if_pos hc23])
    · try dsimp only at hc23
      (iterate 2 refine TC.seq ?_); refine TC.region ?_; (iterate 2 refine TL.run1 (pure_move rfl) rfl ?_); refine TL.run1 (pure_call (syllable_spec _ _) (.cons rfl (.cons rfl .nil)) Tryd.call61) rfl ?_; refine TL.run1 (pure_assign rfl) rfl ?_; refine TL.nil' ?_; refine TC.condD rfl (fun hc30 => ?_) (fun hc30 => ?_)
      · try dsimp only at hc30
        refine TC.skip' ?_; refine TC.condD rfl (fun hc30 => ?_) (fun hc30 => ?_)
        · try dsimp only at hc30
          refine TC.seq ?_; refine TC.region ?_; refine TL.run1 (pure_assign rfl) rfl ?_; refine TL.nil' ?_; refine TC.ret ?_; refine block_ret ?_; refine then_ret ?_
          exact ret_bool rfl (by rw [hbk]; unfold bd; rw [if_neg hc16, if_neg hc23, if_pos (by first | exact .inl hc30 | exact .inr (.inl hc30) | exact .inr (.inr (.inl hc30)) | exact .inr (.inr (.inr (.inl hc30))) | exact .inr (.inr (.inr (.inr hc30))))])
        · try dsimp only at hc30
          contradiction
      · try dsimp only at hc30
        refine TC.seq ?_; refine TC.region ?_; refine TL.run1 (pure_move rfl) rfl ?_; refine TL.run1 (pure_eql rfl rfl) rfl ?_; refine TL.run1 (pure_assign rfl) rfl ?_; refine TL.nil' ?_; refine TC.condD rfl (fun hc30 => ?_) (fun hc30 => ?_)
        · try dsimp only at hc30
          refine TC.skip' ?_; refine TC.condD rfl (fun hc30 => ?_) (fun hc30 => ?_)
          · try dsimp only at hc30
            refine TC.seq ?_; refine TC.region ?_; refine TL.run1 (pure_assign rfl) rfl ?_; refine TL.nil' ?_; refine TC.ret ?_; refine block_ret ?_; refine then_ret ?_
            exact ret_bool rfl (by rw [hbk]; unfold bd; rw [if_neg hc16, if_neg hc23, if_pos (by first | exact .inl hc30 | exact .inr (.inl hc30) | exact .inr (.inr (.inl hc30)) | exact .inr (.inr (.inr (.inl hc30))) | exact .inr (.inr (.inr (.inr hc30))))])
          · try dsimp only at hc30
            contradiction
        · try dsimp only at hc30
          refine TC.seq ?_; refine TC.region ?_; refine TL.run1 (pure_move rfl) rfl ?_; refine TL.run1 (pure_eql rfl rfl) rfl ?_; refine TL.run1 (pure_assign rfl) rfl ?_; refine TL.nil' ?_; refine TC.condD rfl (fun hc30 => ?_) (fun hc30 => ?_)
          · try dsimp only at hc30
            refine TC.skip' ?_; refine TC.condD rfl (fun hc30 => ?_) (fun hc30 => ?_)
            · try dsimp only at hc30
              refine TC.seq ?_; refine TC.region ?_; refine TL.run1 (pure_assign rfl) rfl ?_; refine TL.nil' ?_; refine TC.ret ?_; refine block_ret ?_; refine then_ret ?_
              exact ret_bool rfl (by rw [hbk]; unfold bd; rw [if_neg hc16, if_neg hc23, if_pos (by first | exact .inl hc30 | exact .inr (.inl hc30) | exact .inr (.inr (.inl hc30)) | exact .inr (.inr (.inr (.inl hc30))) | exact .inr (.inr (.inr (.inr hc30))))])
            · try dsimp only at hc30
              contradiction
          · try dsimp only at hc30
            refine TC.seq ?_; refine TC.region ?_; refine TL.run1 (pure_move rfl) rfl ?_; refine TL.run1 (pure_eql rfl rfl) rfl ?_; refine TL.run1 (pure_assign rfl) rfl ?_; refine TL.nil' ?_; refine TC.condD rfl (fun hc30 => ?_) (fun hc30 => ?_)
            · try dsimp only at hc30
              refine TC.skip' ?_; refine TC.condD rfl (fun hc30 => ?_) (fun hc30 => ?_)
              · try dsimp only at hc30
                refine TC.seq ?_; refine TC.region ?_; refine TL.run1 (pure_assign rfl) rfl ?_; refine TL.nil' ?_; refine TC.ret ?_; refine block_ret ?_; refine then_ret ?_
                exact ret_bool rfl (by rw [hbk]; unfold bd; rw [if_neg hc16, if_neg hc23, if_pos (by first | exact .inl hc30 | exact .inr (.inl hc30) | exact .inr (.inr (.inl hc30)) | exact .inr (.inr (.inr (.inl hc30))) | exact .inr (.inr (.inr (.inr hc30))))])
              · try dsimp only at hc30
                contradiction
            · try dsimp only at hc30
              refine TC.region ?_; refine TL.run1 (pure_move rfl) rfl ?_; refine TL.run1 (pure_eql rfl rfl) rfl ?_; refine TL.run1 (pure_assign rfl) rfl ?_; refine TL.nil' ?_; refine TC.condD rfl (fun hc30 => ?_) (fun hc30 => ?_)
              · try dsimp only at hc30
                refine TC.seq ?_; refine TC.region ?_; refine TL.run1 (pure_assign rfl) rfl ?_; refine TL.nil' ?_; refine TC.ret ?_; refine block_ret ?_; refine then_ret ?_
                exact ret_bool rfl (by rw [hbk]; unfold bd; rw [if_neg hc16, if_neg hc23, if_pos (by first | exact .inl hc30 | exact .inr (.inl hc30) | exact .inr (.inr (.inl hc30)) | exact .inr (.inr (.inr (.inl hc30))) | exact .inr (.inr (.inr (.inr hc30))))])
              · try dsimp only at hc30
                refine TC.regionCut [43, 44, 45, 46, 47, 48, 49, 42] 42 (iAt c k = 14 ∧ (stL c k).picd = true) ?_ ?_
                · skip
                  refine TL.run1 (pure_move rfl) rfl ?_; refine TL.run1 (pure_eql rfl rfl) rfl ?_; refine TL.run1 (pure_move rfl) rfl ?_; refine TL.splitP 45 rfl (fun hg45 => ?_) (fun hg45 => ?_)
                  · try dsimp only at hg45
                    (iterate 2 refine TL.runG rfl rfl (pure_move rfl) rfl ?_); refine TL.runG rfl rfl (pure_call (joined_spec c k h1 h2 hl) (.cons rfl (.cons rfl .nil)) Tryd.call62) rfl ?_; refine TL.run1 (pure_pick_true rfl rfl) rfl ?_; refine TL.run1 (pure_assign rfl) rfl ?_; refine TL.cutEnd (by repeat (first | exact Same.refl _ _ | refine Same.put rfl ?_)) rfl ?_
                    first | (simp only [decide_eq_true_eq, Bool.false_eq_true, false_iff, true_iff, iff_true, iff_false, Bool.not_eq_true]; omega) | (simp_all; done) | (simp_all; omega) | grind
                  · try dsimp only at hg45
                    (iterate 3 refine TL.passG rfl rfl rfl rfl ?_); refine TL.run1 (pure_pick_false rfl rfl) rfl ?_; refine TL.run1 (pure_assign rfl) rfl ?_; refine TL.cutEnd (by repeat (first | exact Same.refl _ _ | refine Same.put rfl ?_)) rfl ?_
                    first | (simp only [decide_eq_true_eq, Bool.false_eq_true, false_iff, true_iff, iff_true, iff_false, Bool.not_eq_true]; omega) | (simp_all; done) | (simp_all; omega) | grind
                refine TC.condD rfl (fun hc42 => ?_) (fun hc42 => ?_)
                · try dsimp only at hc42
                  refine TC.seq ?_; refine TC.region ?_; refine TL.run1 (pure_assign rfl) rfl ?_; refine TL.nil' ?_; refine TC.ret ?_; refine block_ret ?_; refine then_ret ?_
                  exact ret_bool rfl (by rw [hbk]; unfold bd; rw [if_neg hc16, if_neg hc23, if_neg (by rintro (h | h | h | h | h) <;> contradiction), if_pos ⟨hpd hc42.2, hc42.1, hc42.2⟩])
                · try dsimp only at hc42
                  refine TC.skip ?_; refine block_normal ?_; refine then_normal ?_; refine TC.seq ?_; refine TC.region ?_; refine TL.run1 (pure_move rfl) rfl ?_; refine TL.run1 (pure_eql rfl rfl) rfl ?_; refine TL.run1 (pure_move rfl) rfl ?_; refine TL.splitP 52 rfl (fun hg52 => ?_) (fun hg52 => ?_)
                  · try dsimp only at hg52
                    refine TL.runG rfl rfl (pure_move rfl) rfl ?_; refine TL.runG rfl rfl (pure_eql rfl rfl) rfl ?_; refine TL.run1 (pure_pick_true rfl rfl) rfl ?_; refine TL.run1 (pure_move rfl) rfl ?_; refine TL.splitP 56 rfl (fun hg56 => ?_) (fun hg56 => ?_)
                    · try dsimp only at hg56
                      (iterate 2 refine TL.runG rfl rfl (pure_move rfl) rfl ?_); refine TL.runG rfl rfl (pure_call (regionals_spec c k h1 h2 hl) (.cons rfl (.cons rfl .nil)) Tryd.call63) rfl ?_; refine TL.runG rfl rfl (pure_rem rfl rfl (by omega) (by omega)) rfl ?_; refine TL.runG rfl rfl (pure_eql rfl rfl) rfl ?_; refine TL.run1 (pure_pick_true rfl rfl) rfl ?_; refine TL.run1 (pure_not rfl) rfl ?_; refine TL.run1 (pure_assign rfl) rfl ?_; refine TL.nil' ?_; refine TC.ret ?_
                      exact ret_bool rfl (by rw [hbk]; unfold bd; rw [if_neg hc16, if_neg hc23, if_neg (by rintro (h | h | h | h | h) <;> contradiction), if_neg (fun h => hc42 ⟨h.2.1, h.2.2⟩)]; (repeat' split) <;> first | rfl | (simp_all; done) | grind)
                    · try dsimp only at hg56
                      (iterate 5 refine TL.passG rfl rfl rfl rfl ?_); refine TL.run1 (pure_pick_false rfl rfl) rfl ?_; refine TL.run1 (pure_not rfl) rfl ?_; refine TL.run1 (pure_assign rfl) rfl ?_; refine TL.nil' ?_; refine TC.ret ?_
                      exact ret_bool rfl (by rw [hbk]; unfold bd; rw [if_neg hc16, if_neg hc23, if_neg (by rintro (h | h | h | h | h) <;> contradiction), if_neg (fun h => hc42 ⟨h.2.1, h.2.2⟩)]; (repeat' split) <;> first | rfl | (simp_all; done) | grind)
                  · try dsimp only at hg52
                    (iterate 2 refine TL.passG rfl rfl rfl rfl ?_); refine TL.run1 (pure_pick_false rfl rfl) rfl ?_; refine TL.run1 (pure_move rfl) rfl ?_; (iterate 5 refine TL.passG rfl rfl rfl rfl ?_); refine TL.run1 (pure_pick_false rfl rfl) rfl ?_; refine TL.run1 (pure_not rfl) rfl ?_; refine TL.run1 (pure_assign rfl) rfl ?_; refine TL.nil' ?_; refine TC.ret ?_
                    exact ret_bool rfl (by rw [hbk]; unfold bd; rw [if_neg hc16, if_neg hc23, if_neg (by rintro (h | h | h | h | h) <;> contradiction), if_neg (fun h => hc42 ⟨h.2.1, h.2.2⟩)]; (repeat' split) <;> first | rfl | (simp_all; done) | grind)
set_option maxRecDepth 100000 in
theorem classes_spec (l : List Int) (hl : l.length ≤ 1000000000) : Fun Tryd.prog 36 [.sl 1 (encI l)] (.sl 1 (encI (l.map classP))) := by
  refine Fun.enterF (n := 20) (rs := [.tmp 2]) Tryd.func36 rfl Tryd.ntmps36 Tryd.results36 rfl (fun w F => ?_)
  have hkl := encI_len l
  refine TC.seq ?_; refine TC.region ?_; refine TL.run1 (pure_assign rfl) rfl ?_; refine TL.nil' ?_; refine TC.seq ?_; refine TC.region ?_; refine TL.run1 (pure_assign rfl) rfl ?_; refine TL.nil' ?_; (iterate 2 refine TC.seq ?_); refine TC.nilrow 3 1 ?_; refine TC.region ?_; refine TL.run1 (pure_assign rfl) rfl ?_; refine TL.nil' ?_; refine TC.block ?_; refine TC.loopX (X := Int × Value) (fun (i, v) => [(0, .sl 1 (encI l)), (3, .v v), (4, .v (.int .i64 i))]) (fun (i, v) => [.row v 3 1 (encI ((l.take i.toNat).map classP))]) (fun (i, v) => (0 ≤ i) ∧ (i ≤ l.length)) (fun (i, v) => (l.length - i).toNat) (0, .slice none 0 0) ⟨by skip; repeat (first | exact Agree.nil | refine Agree.cons rfl ?_), by skip; repeat (first | exact List.nil_sublist _ | exact List.Sublist.refl _ | apply List.Sublist.cons_cons | apply List.Sublist.cons)⟩ ?_ ?_
  · skip
    exact ⟨by omega, by omega⟩
  rintro ⟨i, v⟩
  rintro ⟨h0, h1⟩
  show TC _ _ _ (Env.of [(0, .sl 1 (encI l)), (3, .v v), (4, .v (.int .i64 i))]) [.row v 3 1 (encI ((l.take i.toNat).map classP))]
  (iterate 2 refine TC.seq ?_); refine TC.region ?_; (iterate 2 refine TL.run1 (pure_move rfl) rfl ?_); refine TL.run1 (pure_len Ty.sl35 rfl) rfl ?_; refine TL.run1 (pure_lss rfl rfl) rfl ?_; refine TL.nil' ?_; refine TC.condD rfl (fun hc8 => ?_) (fun hc8 => ?_)
  · try dsimp only at hc8
    refine TC.skip' ?_; refine TC.seq ?_; refine TC.block ?_
    have hrow := encI_get l i (by omega) (by omega)
    have hkm := encI_len ((l.take i.toNat).map classP)
    rw [List.length_map, List.length_take] at hkm
    refine TC.region ?_; (iterate 3 refine TL.run1 (pure_move rfl) rfl ?_); refine TL.run1 (pure_indexAddr Ty.sl35 rfl rfl (by omega) (by assumption) (List.cons_ne_nil _ _)) rfl ?_; refine TL.run1 (pure_load1 Ty.one3 rfl) rfl ?_; refine TL.run1 (pure_call (RClass_spec _) (.cons rfl .nil) Tryd.call59) rfl ?_; refine TL.run1 (pure_buildSlice (xs := [.tmp 16]) Ty.app35 (by decide) rfl rfl (.cons rfl (.one rfl) rfl .nil)) rfl ?_; refine TL.append Ty.app35 rfl rfl (by intro _; repeat (first | exact UpdR.here _ | apply UpdR.there)) (by simp only [List.length_append, List.length_cons, List.length_nil]; omega) (by simp only [List.length_append, List.length_cons, List.length_nil]; omega) rfl (fun v18 hv18 => ?_); refine TL.run1 (pure_assign rfl) rfl ?_; refine TL.nil ?_; refine block_normal ?_; refine then_normal ?_; refine TC.region ?_; refine TL.run1 (pure_move rfl) rfl ?_; refine TL.run1 (pure_add rfl rfl (mkI64 (by omega) (by omega))) rfl ?_; refine TL.run1 (pure_assign rfl) rfl ?_; refine TL.nil ?_
    have htk : (l.take (i + 1).toNat).map classP = (l.take i.toNat).map classP ++ [classP (iAt l i)] := by (rw [show (i + 1).toNat = i.toNat + 1 by omega, List.take_succ_eq_append_getElem (by omega), List.map_append]; simp [iAt, show i.toNat < l.length by omega])
    refine loop_next (i + 1, v18) ⟨by repeat (first | exact Agree.nil | refine Agree.cons rfl ?_), by dsimp only; rw [htk, encI_snoc]; repeat (first | exact List.nil_sublist _ | exact List.Sublist.refl _ | apply List.Sublist.cons_cons | apply List.Sublist.cons)⟩ ⟨by omega, by omega⟩ (by dsimp only; omega)
  · try dsimp only at hc8
    refine TC.exit ?_; refine then_exit ?_; refine loop_exit ?_; refine block_here ?_; refine then_normal ?_; refine TC.seq ?_; refine TC.region ?_; refine TL.run1 (pure_move rfl) rfl ?_; refine TL.run1 (pure_assign rfl) rfl ?_; refine TL.nil' ?_; refine TC.ret ?_
    exact retF_row rfl (by repeat (first | exact List.Mem.head _ | apply List.Mem.tail)) (by decide) (encI_each _) (by rw [List.take_of_length_le (by omega)])
set_option maxRecDepth 100000 in
theorem RBoundaries_spec (l : List Int) (hl : l.length ≤ 1000000000) : Fun Tryd.prog 17 [.sl 1 (encI l)] (.sl 1 (encI (bnds (l.map classP)))) := by
  refine Fun.enterF (n := 31) (rs := [.tmp 2]) Tryd.func17 rfl Tryd.ntmps17 Tryd.results17 rfl (fun w F => ?_); refine TC.seq ?_; refine TC.region ?_; refine TL.run1 (pure_assign rfl) rfl ?_; refine TL.nil' ?_; refine TC.seq ?_; refine TC.region ?_; refine TL.run1 (pure_move rfl) rfl ?_; refine TL.run1 (pure_call (classes_spec l hl) (.cons rfl .nil) Tryd.call36) rfl ?_; refine TL.run1 (pure_assign rfl) rfl ?_; refine TL.nil' ?_; refine TC.seq ?_
  obtain ⟨c, hcd⟩ : ∃ c, l.map classP = c := ⟨_, rfl⟩
  rw [hcd]
  have hkc := encI_len c
  have hcl : c.length = l.length := by rw [← hcd, List.length_map]
  refine TC.region ?_; refine TL.buildRow (xs := [.const (.int .i64 0)]) Ty.app35 (by decide) rfl rfl (.cons rfl (.one rfl) rfl .nil) rfl (fun v8 hv8 => ?_); refine TL.run1 (pure_assign rfl) rfl ?_; refine TL.nil' ?_; (iterate 2 refine TC.seq ?_); refine TC.region ?_; refine TL.run1 (pure_assign rfl) rfl ?_; refine TL.nil' ?_; refine TC.block ?_; refine TC.loopX (X := Nat × Value) (fun (k, v) => [(3, .sl 1 (encI c)), (4, .v v), (5, .v (.int .i64 k))]) (fun (k, v) => [.row v 3 1 (encI (ends (cTo c k)))]) (fun (k, v) => (1 ≤ k) ∧ ((k : Int) ≤ max c.length 1)) (fun (k, v) => c.length - k) (1, v8) ⟨by skip; repeat (first | exact Agree.nil | refine Agree.cons rfl ?_), by skip; repeat (first | exact List.nil_sublist _ | exact List.Sublist.refl _ | apply List.Sublist.cons_cons | apply List.Sublist.cons)⟩ ?_ ?_
  · skip
    exact ⟨Nat.le_refl _, by omega⟩
  rintro ⟨k, v⟩
  rintro ⟨h1, h2⟩
  show TC _ _ _ (Env.of [(3, .sl 1 (encI c)), (4, .v v), (5, .v (.int .i64 k))]) [.row v 3 1 (encI (ends (cTo c k)))]
  (iterate 2 refine TC.seq ?_); refine TC.region ?_; (iterate 2 refine TL.run1 (pure_move rfl) rfl ?_); refine TL.run1 (pure_len Ty.sl35 rfl) rfl ?_; refine TL.run1 (pure_lss rfl rfl) rfl ?_; refine TL.nil' ?_; refine TC.condD rfl (fun hc12 => ?_) (fun hc12 => ?_)
  · try dsimp only at hc12
    refine TC.skip' ?_; refine TC.seq ?_; refine TC.block ?_; refine TC.seq ?_; refine TC.region ?_; (iterate 2 refine TL.run1 (pure_move rfl) rfl ?_); refine TL.run1 (pure_call (Rboundary_spec c k h1 (by omega) (by omega)) (.cons rfl (.cons rfl .nil)) Tryd.call37) rfl ?_; refine TL.nil' ?_; refine TC.cond rfl (fun hc17 => ?_) (fun hc17 => ?_)
    · try dsimp only at hc17
      have hke := encI_len (ends (cTo c k))
      rw [ends_len] at hke
      have hct := cTo_len_le c k
      refine TC.region ?_; (iterate 2 refine TL.run1 (pure_move rfl) rfl ?_); refine TL.run1 (pure_buildSlice (xs := [.tmp 19]) Ty.app35 (by decide) rfl rfl (.cons rfl (.one rfl) rfl .nil)) rfl ?_; refine TL.append Ty.app35 rfl rfl (by intro _; repeat (first | exact UpdR.here _ | apply UpdR.there)) (by simp only [List.length_append, List.length_cons, List.length_nil]; omega) (by simp only [List.length_append, List.length_cons, List.length_nil]; omega) rfl (fun v21 hv21 => ?_); refine TL.run1 (pure_assign rfl) rfl ?_; refine TL.nil ?_; refine block_normal ?_; refine then_normal ?_; refine TC.region ?_; refine TL.run1 (pure_move rfl) rfl ?_; refine TL.run1 (pure_add rfl rfl (mkI64 (by omega) (by omega))) rfl ?_; refine TL.run1 (pure_assign rfl) rfl ?_; refine TL.nil ?_
      have htk : cTo c (k + 1) = cTo c k ++ [(lastB c k, k)] := by rw [cTo, if_pos ⟨h1, hc17⟩]
      refine loop_next (k + 1, v21) ⟨by repeat (first | exact Agree.nil | refine Agree.cons rfl ?_), by dsimp only; rw [htk, ends_snoc, encI_snoc]; repeat (first | exact List.nil_sublist _ | exact List.Sublist.refl _ | apply List.Sublist.cons_cons | apply List.Sublist.cons)⟩ ⟨by omega, by omega⟩ (by dsimp only; omega)
    · try dsimp only at hc17
      refine TC.skip ?_; refine block_normal ?_; refine then_normal ?_; refine TC.region ?_; refine TL.run1 (pure_move rfl) rfl ?_; refine TL.run1 (pure_add rfl rfl (mkI64 (by omega) (by omega))) rfl ?_; refine TL.run1 (pure_assign rfl) rfl ?_; refine TL.nil ?_
      have htk : cTo c (k + 1) = cTo c k := by rw [cTo, if_neg (fun h => by rw [h.2] at hc17; cases hc17)]
      refine loop_next (k + 1, v) ⟨by repeat (first | exact Agree.nil | refine Agree.cons rfl ?_), by dsimp only; rw [htk]; repeat (first | exact List.nil_sublist _ | exact List.Sublist.refl _ | apply List.Sublist.cons_cons | apply List.Sublist.cons)⟩ ⟨by omega, by omega⟩ (by dsimp only; omega)
  · try dsimp only at hc12
    refine TC.exit ?_; refine then_exit ?_; refine loop_exit ?_; refine block_here ?_; refine then_normal ?_; (iterate 2 refine TC.seq ?_)
    have hke := encI_len (ends (cTo c k))
    rw [ends_len] at hke
    have hct := cTo_len_le c k
    refine TC.region ?_; refine TL.run1 (pure_move rfl) rfl ?_; refine TL.run1 (pure_len Ty.sl35 rfl) rfl ?_; refine TL.run1 (pure_gtr rfl rfl) rfl ?_; refine TL.nil' ?_; refine TC.condD rfl (fun hc24 => ?_) (fun hc24 => ?_)
    · try dsimp only at hc24
      refine TC.region ?_; (iterate 2 refine TL.run1 (pure_move rfl) rfl ?_); refine TL.run1 (pure_len Ty.sl35 rfl) rfl ?_; refine TL.run1 (pure_buildSlice (xs := [.tmp 27]) Ty.app35 (by decide) rfl rfl (.cons rfl (.one rfl) rfl .nil)) rfl ?_; refine TL.append Ty.app35 rfl rfl (by intro _; repeat (first | exact UpdR.here _ | apply UpdR.there)) (by simp only [List.length_append, List.length_cons, List.length_nil]; omega) (by simp only [List.length_append, List.length_cons, List.length_nil]; omega) rfl (fun v29 hv29 => ?_); refine TL.run1 (pure_assign rfl) rfl ?_; refine TL.nil' ?_; refine TC.seq ?_; refine TC.region ?_; refine TL.run1 (pure_move rfl) rfl ?_; refine TL.run1 (pure_assign rfl) rfl ?_; refine TL.nil' ?_; refine TC.ret ?_
      have hkk : k = c.length := by omega
      have hb : encI (bnds c) = encI (ends (cTo c k)) ++ [[.v (.int .i64 ((encI c).length : Int))]] := by (unfold bnds cAll; rw [if_pos (by omega), ends_snoc, encI_snoc, hkc, ← hkk])
      exact retF_row rfl (by repeat (first | exact List.Mem.head _ | apply List.Mem.tail)) (by decide) (by rw [← hb]; exact encI_each _) (by rw [hb])
    · try dsimp only at hc24
      refine TC.skip' ?_; refine TC.seq ?_; refine TC.region ?_; refine TL.run1 (pure_move rfl) rfl ?_; refine TL.run1 (pure_assign rfl) rfl ?_; refine TL.nil' ?_; refine TC.ret ?_
      have hk0 : c = [] := List.eq_nil_of_length_eq_zero (by omega)
      have hkk : k = 1 := by (rw [hk0] at h2; simp at h2; omega)
      exact retF_row rfl (by repeat (first | exact List.Mem.head _ | apply List.Mem.tail)) (by decide) (encI_each _) (by rw [hk0, hkk]; rfl)
end Go.Ob
