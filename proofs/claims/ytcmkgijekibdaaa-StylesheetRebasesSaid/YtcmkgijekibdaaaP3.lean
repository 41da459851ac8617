import Derived.Test.YtcmkgijekibdaaaP2
import Derived.Test.YtcmkgijekibdaaaObT
set_option linter.unusedVariables false
set_option linter.unusedSimpArgs false
namespace Go.Ob
open Go.Proofs

theorem fits_in {e key : Int} (h : fitsP e key = true) : inI (keysK tableK) key = true := (Bool.and_eq_true _ _ ▸ h).1
set_option maxRecDepth 100000 in
theorem Check_spec (e : Int) (ps : List (Int × Int)) (hl : ps.length ≤ 1000000) : Fun Try.prog 49 [.v (.int .i64 e), .sl 2 (encP ps)] (.v (.int .i64 (checkP e ps))) := by
  refine Fun.enter (n := 64) (rs := [.tmp 4]) Try.func49 rfl Try.ntmps49 Try.results49 rfl (fun w F => ?_)
  refine TC.seq ?_; refine TC.region ?_; refine TL.run1 (pure_assign rfl) rfl ?_; refine TL.nil' ?_; refine TC.seq ?_; refine TC.regionCut [8, 9, 10, 11, 12, 13] 13 (e < 1 ∨ e > 10) ?_ ?_
  · skip
    refine TL.run1 (pure_move rfl) rfl ?_; refine TL.run1 (pure_lss rfl rfl) rfl ?_; refine TL.run1 (pure_move rfl) rfl ?_
    first | refine TL.splitP 10 rfl (fun hg10 => ?_) (fun hg10 => ?_) | refine TL.split 10 rfl (fun hg10 => ?_) (fun hg10 => ?_)
    · try dsimp only at hg10
      refine TL.passG rfl rfl rfl rfl ?_; refine TL.passG rfl rfl rfl rfl ?_; refine TL.run1 (pure_pick_true rfl rfl) rfl ?_; refine TL.cutEnd (by repeat (first | exact Same.refl _ _ | refine Same.put rfl ?_)) rfl ?_
      first | (simp only [decide_eq_true_eq, Bool.false_eq_true, false_iff, true_iff, iff_true, iff_false, Bool.not_eq_true]; omega) | (simp_all; done) | (simp_all; omega) | grind
    · try dsimp only at hg10
      refine TL.runG rfl rfl (pure_move rfl) rfl ?_; refine TL.runG rfl rfl (pure_gtr rfl rfl) rfl ?_; refine TL.run1 (pure_pick_false rfl rfl) rfl ?_; refine TL.cutEnd (by repeat (first | exact Same.refl _ _ | refine Same.put rfl ?_)) rfl ?_
      first | (simp only [decide_eq_true_eq, Bool.false_eq_true, false_iff, true_iff, iff_true, iff_false, Bool.not_eq_true]; omega) | (simp_all; done) | (simp_all; omega) | grind
  first | refine TC.condD rfl (fun hc13 => ?_) (fun hc13 => ?_) | refine TC.condN rfl (fun hc13 => ?_) (fun hc13 => ?_) | refine TC.cond rfl (fun hc13 => ?_) (fun hc13 => ?_)
  · try dsimp only at hc13
    refine TC.seq ?_; refine TC.region ?_; refine TL.run1 (pure_assign rfl) rfl ?_; refine TL.nil' ?_; refine TC.ret ?_; refine then_ret ?_
    exact ret_int rfl (by unfold checkP; rw [if_pos hc13])
  · try dsimp only at hc13
    refine TC.skip' ?_; refine TC.seq ?_; refine TC.seq ?_; refine TC.region ?_; refine TL.run1 (pure_move rfl) rfl ?_
    first | refine TL.run1 (pure_len Ty.sl26 rfl) rfl ?_ | refine TL.run1 (pure_len_row Ty.sl26 rfl (by repeat (first | exact List.Mem.head _ | apply List.Mem.tail))) rfl ?_ | refine TL.run1 (pure_len_nil Ty.sl26 rfl) rfl ?_
    refine TL.run1 (pure_move rfl) rfl ?_; refine TL.nil' ?_; refine TC.block ?_; refine TC.loopX (X := Int) (fun i => [(0, .v (.int .i64 e)), (1, .sl 2 (encP ps)), (14, .sl 2 (encP ps)), (15, .v (.int .i64 ps.length)), (16, .v (.int .i64 i))]) (fun i => []) (fun i => (0 ≤ i) ∧ (i ≤ ps.length) ∧ (∀ j : Int, 0 ≤ j → j < i → errAt e ps j = 0)) (fun i => (ps.length - i).toNat) (0) ⟨by rw [encP_len]; repeat (first | exact Agree.nil | refine Agree.cons rfl ?_), by skip; repeat (first | exact List.nil_sublist _ | exact List.Sublist.refl _ | apply List.Sublist.cons_cons | apply List.Sublist.cons)⟩ ?_ ?_
    · skip
      exact ⟨by omega, by omega, fun j _ _ => by omega⟩
    intro i
    rintro ⟨h0, h1, h2⟩
    show TC _ _ _ (Env.of [(0, .v (.int .i64 e)), (1, .sl 2 (encP ps)), (14, .sl 2 (encP ps)), (15, .v (.int .i64 ps.length)), (16, .v (.int .i64 i))]) []
    refine TC.seq ?_; refine TC.region ?_; refine TL.run1 (pure_lss rfl rfl) rfl ?_; refine TL.nil' ?_; refine TC.seq ?_
    first | refine TC.condD rfl (fun hc17 => ?_) (fun hc17 => ?_) | refine TC.condN rfl (fun hc17 => ?_) (fun hc17 => ?_) | refine TC.cond rfl (fun hc17 => ?_) (fun hc17 => ?_)
    · try dsimp only at hc17
      refine TC.skip' ?_; refine TC.seq ?_; refine TC.block ?_; refine TC.seq ?_
      have hk := encP_len ps
      have hrow := encP_get ps i (by omega) (by omega)
      refine TC.region ?_; refine TL.run1 (pure_move rfl) rfl ?_; refine TL.run1 (pure_indexAddr Ty.sl26 rfl rfl (by omega) (by assumption) (List.cons_ne_nil _ _)) rfl ?_
      first | refine TL.run1 (pure_load Ty.agg38 rfl (.succ (.succ (.zero _)))) rfl ?_ | refine TL.run1 (pure_load_own Ty.agg38 rfl (by repeat (first | exact List.Mem.head _ | apply List.Mem.tail)) (by repeat (first | exact DropR.zero _ | apply DropR.succ)) (.succ (.succ (.zero _)))) rfl ?_
      refine TL.alloc Ty.zero38 rfl (fun g6 => ?_)
      refine TL.run1 (pure_assign rfl) rfl ?_; refine TL.store rfl rfl (.agg _) Try.sizeOf38 rfl (by repeat (first | exact UpdR.here _ | apply UpdR.there)) (by repeat (first | exact PutR.nil _ | apply PutR.here | apply PutR.skip)) ?_; refine TL.nil' ?_; refine TC.seq ?_; refine TC.block ?_; refine TC.seq ?_; refine TC.region ?_; refine TL.run1 (pure_move rfl) rfl ?_
      first | refine TL.run1 (pure_fieldAddr Ty.f38_0 rfl (.zero _) (List.cons_ne_nil _ _)) rfl ?_ | refine TL.run1 (pure_fieldAddr_own Ty.f38_0 rfl) rfl ?_
      first | refine TL.run1 (pure_load1 Ty.one3 rfl) rfl ?_ | refine TL.run1 (pure_load1_own Ty.one3 rfl (by repeat (first | exact List.Mem.head _ | apply List.Mem.tail)) (by repeat (first | exact DropR.zero _ | apply DropR.succ))) rfl ?_
      refine TL.run1 (pure_call (Fits_spec _ _) (.cons rfl (.cons rfl .nil)) Try.call72) rfl ?_; refine TL.run1 (pure_not rfl) rfl ?_; refine TL.run1 (pure_assign rfl) rfl ?_; refine TL.nil' ?_
      first | refine TC.condD rfl (fun hc21 => ?_) (fun hc21 => ?_) | refine TC.condN rfl (fun hc21 => ?_) (fun hc21 => ?_) | refine TC.cond rfl (fun hc21 => ?_) (fun hc21 => ?_)
      · try dsimp only at hc21
        refine TC.seq ?_; refine TC.region ?_; refine TL.run1 (pure_assign rfl) rfl ?_; refine TL.nil' ?_; refine TC.ret ?_; refine block_ret ?_; refine then_ret ?_; refine block_ret ?_; refine then_ret ?_; refine loop_ret ?_; refine block_ret ?_; refine then_ret ?_
        have hE : errAt e ps i = 4 := by unfold errAt; rw [if_pos (by simpa using hc21)]
        exact ret_int rfl (by unfold checkP; rw [if_neg hc13, firstErr_at _ i h0 h2 (by rw [hE]; decide) _ (by omega), hE])
      · try dsimp only at hc21
        have hf : fitsP e (pAt ps i).1 = true := by simpa using hc21
        refine TC.drawCut [28, 29, 30, 31, 32, 33, 34, 35, 36, 37, 38, 39, 40, 27] 27 (i > 0 ∧ (pAt ps i).1 = (pAt ps (i - 1)).1) Ty.follows (by kernel_rfl) ?_ ?_
        · skip
          refine TD.run1 (pure_move rfl) rfl ?_; refine TD.run1 (pure_gtr rfl rfl) rfl ?_; refine TD.run1 (pure_move rfl) rfl ?_
          first | refine TD.splitP 30 rfl (fun hg30 => ?_) (fun hg30 => ?_) | refine TD.split 30 rfl (fun hg30 => ?_) (fun hg30 => ?_)
          · try dsimp only at hg30
            have hrow2 := encP_get ps (i - 1) (by omega) (by omega)
            first | refine TD.runG rfl rfl (pure_fieldAddr Ty.f38_0 rfl (.zero _) (List.cons_ne_nil _ _)) rfl ?_ | refine TD.runG rfl rfl (pure_fieldAddr_own Ty.f38_0 rfl) rfl ?_
            first | refine TD.runG rfl rfl (pure_load1 Ty.one3 rfl) rfl ?_ | refine TD.runG rfl rfl (pure_load1_own Ty.one3 rfl (by repeat (first | exact List.Mem.head _ | apply List.Mem.tail)) (by repeat (first | exact DropR.zero _ | apply DropR.succ))) rfl ?_
            refine TD.runG rfl rfl (pure_move rfl) rfl ?_; refine TD.runG rfl rfl (pure_move rfl) rfl ?_; refine TD.runG rfl rfl (pure_sub rfl rfl (mkI64 (by omega) (by omega))) rfl ?_; refine TD.runG rfl rfl (pure_indexAddr Ty.sl26 rfl rfl (by omega) (by assumption) (List.cons_ne_nil _ _)) rfl ?_
            first | refine TD.runG rfl rfl (pure_fieldAddr Ty.f38_0 rfl (.zero _) (List.cons_ne_nil _ _)) rfl ?_ | refine TD.runG rfl rfl (pure_fieldAddr_own Ty.f38_0 rfl) rfl ?_
            first | refine TD.runG rfl rfl (pure_load1 Ty.one3 rfl) rfl ?_ | refine TD.runG rfl rfl (pure_load1_own Ty.one3 rfl (by repeat (first | exact List.Mem.head _ | apply List.Mem.tail)) (by repeat (first | exact DropR.zero _ | apply DropR.succ))) rfl ?_
            refine TD.runG rfl rfl (pure_eql rfl rfl) rfl ?_; refine TD.run1 (pure_pick_true rfl rfl) rfl ?_; refine TD.run1 (pure_assign rfl) rfl ?_; refine TD.cutEnd (by repeat (first | exact Same.refl _ _ | refine Same.put rfl ?_)) rfl ?_
            first | (simp only [decide_eq_true_eq, Bool.false_eq_true, false_iff, true_iff, iff_true, iff_false, Bool.not_eq_true]; omega) | (simp_all; done) | (simp_all; omega) | grind
          · try dsimp only at hg30
            refine TD.passG rfl rfl rfl rfl ?_; refine TD.passG rfl rfl rfl rfl ?_; refine TD.passG rfl rfl rfl rfl ?_; refine TD.passG rfl rfl rfl rfl ?_; refine TD.passG rfl rfl rfl rfl ?_; refine TD.passG rfl rfl rfl rfl ?_; refine TD.passG rfl rfl rfl rfl ?_; refine TD.passG rfl rfl rfl rfl ?_; refine TD.passG rfl rfl rfl rfl ?_; refine TD.run1 (pure_pick_false rfl rfl) rfl ?_; refine TD.run1 (pure_assign rfl) rfl ?_; refine TD.cutEnd (by repeat (first | exact Same.refl _ _ | refine Same.put rfl ?_)) rfl ?_
            first | (simp only [decide_eq_true_eq, Bool.false_eq_true, false_iff, true_iff, iff_true, iff_false, Bool.not_eq_true]; omega) | (simp_all; done) | (simp_all; omega) | grind
        first | refine TC.condD rfl (fun hc27 => ?_) (fun hc27 => ?_) | refine TC.condN rfl (fun hc27 => ?_) (fun hc27 => ?_) | refine TC.cond rfl (fun hc27 => ?_) (fun hc27 => ?_)
        · try dsimp only at hc27
          refine TC.seq ?_; refine TC.region ?_; refine TL.run1 (pure_assign rfl) rfl ?_; refine TL.nil' ?_; refine TC.ret ?_; refine block_ret ?_; refine then_ret ?_; refine block_ret ?_; refine then_ret ?_; refine loop_ret ?_; refine block_ret ?_; refine then_ret ?_
          have hE : errAt e ps i = 7 := by unfold errAt; rw [if_neg (by rw [hf]; simp), if_pos hc27]
          exact ret_int rfl (by unfold checkP; rw [if_neg hc13, firstErr_at _ i h0 h2 (by rw [hE]; decide) _ (by omega), hE])
        · try dsimp only at hc27
          refine TC.drawCut [42, 43, 44, 45, 46, 47, 48, 49, 50, 51, 52, 53, 54, 41] 41 (i > 0 ∧ (pAt ps i).1 < (pAt ps (i - 1)).1) Ty.follows (by kernel_rfl) ?_ ?_
          · skip
            refine TD.run1 (pure_move rfl) rfl ?_; refine TD.run1 (pure_gtr rfl rfl) rfl ?_; refine TD.run1 (pure_move rfl) rfl ?_
            first | refine TD.splitP 44 rfl (fun hg44 => ?_) (fun hg44 => ?_) | refine TD.split 44 rfl (fun hg44 => ?_) (fun hg44 => ?_)
            · try dsimp only at hg44
              have hrow2 := encP_get ps (i - 1) (by omega) (by omega)
              first | refine TD.runG rfl rfl (pure_fieldAddr Ty.f38_0 rfl (.zero _) (List.cons_ne_nil _ _)) rfl ?_ | refine TD.runG rfl rfl (pure_fieldAddr_own Ty.f38_0 rfl) rfl ?_
              first | refine TD.runG rfl rfl (pure_load1 Ty.one3 rfl) rfl ?_ | refine TD.runG rfl rfl (pure_load1_own Ty.one3 rfl (by repeat (first | exact List.Mem.head _ | apply List.Mem.tail)) (by repeat (first | exact DropR.zero _ | apply DropR.succ))) rfl ?_
              refine TD.runG rfl rfl (pure_move rfl) rfl ?_; refine TD.runG rfl rfl (pure_move rfl) rfl ?_; refine TD.runG rfl rfl (pure_sub rfl rfl (mkI64 (by omega) (by omega))) rfl ?_; refine TD.runG rfl rfl (pure_indexAddr Ty.sl26 rfl rfl (by omega) (by assumption) (List.cons_ne_nil _ _)) rfl ?_
              first | refine TD.runG rfl rfl (pure_fieldAddr Ty.f38_0 rfl (.zero _) (List.cons_ne_nil _ _)) rfl ?_ | refine TD.runG rfl rfl (pure_fieldAddr_own Ty.f38_0 rfl) rfl ?_
              first | refine TD.runG rfl rfl (pure_load1 Ty.one3 rfl) rfl ?_ | refine TD.runG rfl rfl (pure_load1_own Ty.one3 rfl (by repeat (first | exact List.Mem.head _ | apply List.Mem.tail)) (by repeat (first | exact DropR.zero _ | apply DropR.succ))) rfl ?_
              refine TD.runG rfl rfl (pure_lss rfl rfl) rfl ?_; refine TD.run1 (pure_pick_true rfl rfl) rfl ?_; refine TD.run1 (pure_assign rfl) rfl ?_; refine TD.cutEnd (by repeat (first | exact Same.refl _ _ | refine Same.put rfl ?_)) rfl ?_
              first | (simp only [decide_eq_true_eq, Bool.false_eq_true, false_iff, true_iff, iff_true, iff_false, Bool.not_eq_true]; omega) | (simp_all; done) | (simp_all; omega) | grind
            · try dsimp only at hg44
              refine TD.passG rfl rfl rfl rfl ?_; refine TD.passG rfl rfl rfl rfl ?_; refine TD.passG rfl rfl rfl rfl ?_; refine TD.passG rfl rfl rfl rfl ?_; refine TD.passG rfl rfl rfl rfl ?_; refine TD.passG rfl rfl rfl rfl ?_; refine TD.passG rfl rfl rfl rfl ?_; refine TD.passG rfl rfl rfl rfl ?_; refine TD.passG rfl rfl rfl rfl ?_; refine TD.run1 (pure_pick_false rfl rfl) rfl ?_; refine TD.run1 (pure_assign rfl) rfl ?_; refine TD.cutEnd (by repeat (first | exact Same.refl _ _ | refine Same.put rfl ?_)) rfl ?_
              first | (simp only [decide_eq_true_eq, Bool.false_eq_true, false_iff, true_iff, iff_true, iff_false, Bool.not_eq_true]; omega) | (simp_all; done) | (simp_all; omega) | grind
          first | refine TC.condD rfl (fun hc41 => ?_) (fun hc41 => ?_) | refine TC.condN rfl (fun hc41 => ?_) (fun hc41 => ?_) | refine TC.cond rfl (fun hc41 => ?_) (fun hc41 => ?_)
          · try dsimp only at hc41
            refine TC.seq ?_; refine TC.region ?_; refine TL.run1 (pure_assign rfl) rfl ?_; refine TL.nil' ?_; refine TC.ret ?_; refine block_ret ?_; refine then_ret ?_; refine block_ret ?_; refine then_ret ?_; refine loop_ret ?_; refine block_ret ?_; refine then_ret ?_
            have hE : errAt e ps i = 6 := by unfold errAt; rw [if_neg (by rw [hf]; simp), if_neg hc27, if_pos hc41]
            exact ret_int rfl (by unfold checkP; rw [if_neg hc13, firstErr_at _ i h0 h2 (by rw [hE]; decide) _ (by omega), hE])
          · try dsimp only at hc41
            refine TC.skip ?_; refine block_normal ?_; refine then_normal ?_; refine TC.seq ?_; refine TC.region ?_
            first | refine TL.run1 (pure_fieldAddr Ty.f38_0 rfl (.zero _) (List.cons_ne_nil _ _)) rfl ?_ | refine TL.run1 (pure_fieldAddr_own Ty.f38_0 rfl) rfl ?_
            first | refine TL.run1 (pure_load1 Ty.one3 rfl) rfl ?_ | refine TL.run1 (pure_load1_own Ty.one3 rfl (by repeat (first | exact List.Mem.head _ | apply List.Mem.tail)) (by repeat (first | exact DropR.zero _ | apply DropR.succ))) rfl ?_
            first | refine TL.run1 (pure_fieldAddr Ty.f38_1 rfl (.succ (.zero _)) (List.cons_ne_nil _ _)) rfl ?_ | refine TL.run1 (pure_fieldAddr_own Ty.f38_1 rfl) rfl ?_
            first | refine TL.run1 (pure_load1 Ty.one3 rfl) rfl ?_ | refine TL.run1 (pure_load1_own Ty.one3 rfl (by repeat (first | exact List.Mem.head _ | apply List.Mem.tail)) (by repeat (first | exact DropR.zero _ | apply DropR.succ))) rfl ?_
            refine TL.run1 (pure_call (CheckValue_spec _ _) (.cons rfl (.cons rfl .nil)) Try.call73) rfl ?_; refine TL.run1 (pure_assign rfl) rfl ?_; refine TL.nil' ?_; refine TC.seq ?_; refine TC.region ?_; refine TL.run1 (pure_move rfl) rfl ?_; refine TL.run1 (pure_neq rfl rfl) rfl ?_; refine TL.nil' ?_
            first | refine TC.condD rfl (fun hc61 => ?_) (fun hc61 => ?_) | refine TC.condN rfl (fun hc61 => ?_) (fun hc61 => ?_) | refine TC.cond rfl (fun hc61 => ?_) (fun hc61 => ?_)
            · try dsimp only at hc61
              refine TC.seq ?_; refine TC.region ?_; refine TL.run1 (pure_move rfl) rfl ?_; refine TL.run1 (pure_assign rfl) rfl ?_; refine TL.nil' ?_; refine TC.ret ?_; refine block_ret ?_; refine then_ret ?_; refine loop_ret ?_; refine block_ret ?_; refine then_ret ?_
              have hE : errAt e ps i = checkV (pAt ps i).1 (pAt ps i).2 := by unfold errAt; rw [if_neg (by rw [hf]; simp), if_neg hc27, if_neg hc41]
              exact ret_int rfl (by unfold checkP; rw [if_neg hc13, firstErr_at _ i h0 h2 (by rw [hE]; exact hc61) _ (by omega), hE])
            · try dsimp only at hc61
              refine TC.skip ?_; refine block_normal ?_; refine then_normal ?_; refine TC.region ?_; refine TL.run1 (pure_add rfl rfl (mkI64 (by omega) (by omega))) rfl ?_; refine TL.run1 (pure_move rfl) rfl ?_; refine TL.nil ?_
              refine loop_next (i + 1) ⟨by repeat (first | exact Agree.nil | refine Agree.cons rfl ?_), by repeat (first | exact List.nil_sublist _ | exact List.Sublist.refl _ | apply List.Sublist.cons_cons | apply List.Sublist.cons)⟩ ⟨by omega, by omega, fun j a b => ?_⟩ (by omega)
              rcases Int.lt_or_eq_of_le (show j ≤ i by omega) with h | h
              · exact h2 j a h
              · rw [h]; unfold errAt; rw [if_neg (by rw [hf]; simp), if_neg hc27, if_neg hc41]; exact Decidable.not_not.1 hc61
    · try dsimp only at hc17
      refine TC.exit ?_; refine then_exit ?_; refine loop_exit ?_; refine block_here ?_; refine then_normal ?_; refine TC.seq ?_; refine TC.region ?_; refine TL.run1 (pure_assign rfl) rfl ?_; refine TL.nil' ?_; refine TC.ret ?_
      exact ret_int rfl (by unfold checkP; rw [if_neg hc13, firstErr_zero _ _ (fun j a b => h2 j a (by omega))])
set_option maxRecDepth 100000 in
theorem RCheck_spec (e : Int) (ps : List (Int × Int)) (hl : ps.length ≤ 1000000) : Fun Try.prog 56 [.v (.int .i64 e), .sl 2 (encP ps)] (.v (.int .i64 (checkP e ps))) := by
  refine Fun.enter (n := 91) (rs := [.tmp 4]) Try.func56 rfl Try.ntmps56 Try.results56 rfl (fun w F => ?_)
  refine TC.seq ?_; refine TC.region ?_; refine TL.run1 (pure_assign rfl) rfl ?_; refine TL.nil' ?_; refine TC.seq ?_; refine TC.regionCut [8, 9, 10, 11, 12, 13] 13 (e < 1 ∨ e > 10) ?_ ?_
  · skip
    refine TL.run1 (pure_move rfl) rfl ?_; refine TL.run1 (pure_lss rfl rfl) rfl ?_; refine TL.run1 (pure_move rfl) rfl ?_
    first | refine TL.splitP 10 rfl (fun hg10 => ?_) (fun hg10 => ?_) | refine TL.split 10 rfl (fun hg10 => ?_) (fun hg10 => ?_)
    · try dsimp only at hg10
      refine TL.passG rfl rfl rfl rfl ?_; refine TL.passG rfl rfl rfl rfl ?_; refine TL.run1 (pure_pick_true rfl rfl) rfl ?_; refine TL.cutEnd (by repeat (first | exact Same.refl _ _ | refine Same.put rfl ?_)) rfl ?_
      first | (simp only [decide_eq_true_eq, Bool.false_eq_true, false_iff, true_iff, iff_true, iff_false, Bool.not_eq_true]; omega) | (simp_all; done) | (simp_all; omega) | grind
    · try dsimp only at hg10
      refine TL.runG rfl rfl (pure_move rfl) rfl ?_; refine TL.runG rfl rfl (pure_gtr rfl rfl) rfl ?_; refine TL.run1 (pure_pick_false rfl rfl) rfl ?_; refine TL.cutEnd (by repeat (first | exact Same.refl _ _ | refine Same.put rfl ?_)) rfl ?_
      first | (simp only [decide_eq_true_eq, Bool.false_eq_true, false_iff, true_iff, iff_true, iff_false, Bool.not_eq_true]; omega) | (simp_all; done) | (simp_all; omega) | grind
  first | refine TC.condD rfl (fun hc13 => ?_) (fun hc13 => ?_) | refine TC.condN rfl (fun hc13 => ?_) (fun hc13 => ?_) | refine TC.cond rfl (fun hc13 => ?_) (fun hc13 => ?_)
  · try dsimp only at hc13
    refine TC.seq ?_; refine TC.region ?_; refine TL.run1 (pure_assign rfl) rfl ?_; refine TL.nil' ?_; refine TC.ret ?_; refine then_ret ?_
    exact ret_int rfl (by unfold checkP; rw [if_pos hc13])
  · try dsimp only at hc13
    refine TC.skip' ?_; refine TC.seq ?_; refine TC.seq ?_; refine TC.region ?_; refine TL.run1 (pure_assign rfl) rfl ?_; refine TL.nil' ?_; refine TC.block ?_; refine TC.loopX (X := Int) (fun i => [(0, .v (.int .i64 e)), (1, .sl 2 (encP ps)), (5, .v (.int .i64 i))]) (fun i => []) (fun i => (0 ≤ i) ∧ (i ≤ ps.length) ∧ (∀ j : Int, 0 ≤ j → j < i → errAt e ps j = 0)) (fun i => (ps.length - i).toNat) (0) ⟨by skip; repeat (first | exact Agree.nil | refine Agree.cons rfl ?_), by skip; repeat (first | exact List.nil_sublist _ | exact List.Sublist.refl _ | apply List.Sublist.cons_cons | apply List.Sublist.cons)⟩ ?_ ?_
    · skip
      exact ⟨by omega, by omega, fun j _ _ => by omega⟩
    intro i
    rintro ⟨h0, h1, h2⟩
    show TC _ _ _ (Env.of [(0, .v (.int .i64 e)), (1, .sl 2 (encP ps)), (5, .v (.int .i64 i))]) []
    have hk := encP_len ps
    refine TC.seq ?_; refine TC.seq ?_; refine TC.region ?_; refine TL.run1 (pure_move rfl) rfl ?_; refine TL.run1 (pure_move rfl) rfl ?_
    first | refine TL.run1 (pure_len Ty.sl26 rfl) rfl ?_ | refine TL.run1 (pure_len_row Ty.sl26 rfl (by repeat (first | exact List.Mem.head _ | apply List.Mem.tail))) rfl ?_ | refine TL.run1 (pure_len_nil Ty.sl26 rfl) rfl ?_
    refine TL.run1 (pure_lss rfl rfl) rfl ?_; refine TL.nil' ?_
    first | refine TC.condD rfl (fun hc17 => ?_) (fun hc17 => ?_) | refine TC.condN rfl (fun hc17 => ?_) (fun hc17 => ?_) | refine TC.cond rfl (fun hc17 => ?_) (fun hc17 => ?_)
    · try dsimp only at hc17
      refine TC.skip' ?_; refine TC.seq ?_; refine TC.block ?_; refine TC.seq ?_
      have hrow := encP_get ps i (by omega) (by omega)
      refine TC.region ?_; refine TL.run1 (pure_move rfl) rfl ?_; refine TL.run1 (pure_move rfl) rfl ?_; refine TL.run1 (pure_indexAddr Ty.sl26 rfl rfl (by omega) (by assumption) (List.cons_ne_nil _ _)) rfl ?_
      first | refine TL.run1 (pure_fieldAddr Ty.f38_0 rfl (.zero _) (List.cons_ne_nil _ _)) rfl ?_ | refine TL.run1 (pure_fieldAddr_own Ty.f38_0 rfl) rfl ?_
      first | refine TL.run1 (pure_load1 Ty.one3 rfl) rfl ?_ | refine TL.run1 (pure_load1_own Ty.one3 rfl (by repeat (first | exact List.Mem.head _ | apply List.Mem.tail)) (by repeat (first | exact DropR.zero _ | apply DropR.succ))) rfl ?_
      refine TL.run1 (pure_call (Of_spec _) (.cons rfl .nil) Try.call21) rfl ?_; refine TL.run1 (pure_move rfl) rfl ?_; refine TL.run1 (pure_extract rfl rfl) rfl ?_; refine TL.run1 (pure_extract rfl rfl) rfl ?_
      refine TL.alloc Ty.zero40 rfl (fun g6 => ?_)
      refine TL.store rfl rfl (.agg _) Try.sizeOf40 rfl (by repeat (first | exact UpdR.here _ | apply UpdR.there)) (by repeat (first | exact PutR.nil _ | apply PutR.here | apply PutR.skip)) ?_; refine TL.run1 (pure_assign rfl) rfl ?_; refine TL.nil' ?_; refine TC.block ?_; refine TC.seq ?_; refine TC.region ?_; refine TL.run1 (pure_move rfl) rfl ?_; refine TL.run1 (pure_move rfl) rfl ?_; refine TL.run1 (pure_move rfl) rfl ?_; refine TL.run1 (pure_indexAddr Ty.sl26 rfl rfl (by omega) (by assumption) (List.cons_ne_nil _ _)) rfl ?_
      first | refine TL.run1 (pure_fieldAddr Ty.f38_0 rfl (.zero _) (List.cons_ne_nil _ _)) rfl ?_ | refine TL.run1 (pure_fieldAddr_own Ty.f38_0 rfl) rfl ?_
      first | refine TL.run1 (pure_load1 Ty.one3 rfl) rfl ?_ | refine TL.run1 (pure_load1_own Ty.one3 rfl (by repeat (first | exact List.Mem.head _ | apply List.Mem.tail)) (by repeat (first | exact DropR.zero _ | apply DropR.succ))) rfl ?_
      refine TL.run1 (pure_call (RFits_spec _ _) (.cons rfl (.cons rfl .nil)) Try.call79) rfl ?_; refine TL.run1 (pure_not rfl) rfl ?_; refine TL.run1 (pure_assign rfl) rfl ?_; refine TL.nil' ?_
      first | refine TC.condD rfl (fun hc29 => ?_) (fun hc29 => ?_) | refine TC.condN rfl (fun hc29 => ?_) (fun hc29 => ?_) | refine TC.cond rfl (fun hc29 => ?_) (fun hc29 => ?_)
      · try dsimp only at hc29
        refine TC.seq ?_; refine TC.region ?_; refine TL.run1 (pure_assign rfl) rfl ?_; refine TL.nil' ?_; refine TC.ret ?_; refine block_ret ?_; refine block_ret ?_; refine then_ret ?_; refine loop_ret ?_; refine block_ret ?_; refine then_ret ?_
        have hE : errAt e ps i = 4 := by unfold errAt; rw [if_pos (by simpa using hc29)]
        exact ret_int rfl (by unfold checkP; rw [if_neg hc13, firstErr_at _ i h0 h2 (by rw [hE]; decide) _ (by omega), hE])
      · try dsimp only at hc29
        have hf : fitsP e (pAt ps i).1 = true := by simpa using hc29
        refine TC.drawCut [39, 40, 41, 42, 43, 44, 45, 46, 47, 48, 49, 50, 51, 52, 53, 54, 38] 38 (i > 0 ∧ (pAt ps i).1 = (pAt ps (i - 1)).1) Ty.follows (by kernel_rfl) ?_ ?_
        · skip
          refine TD.run1 (pure_move rfl) rfl ?_; refine TD.run1 (pure_gtr rfl rfl) rfl ?_; refine TD.run1 (pure_move rfl) rfl ?_
          first | refine TD.splitP 41 rfl (fun hg41 => ?_) (fun hg41 => ?_) | refine TD.split 41 rfl (fun hg41 => ?_) (fun hg41 => ?_)
          · try dsimp only at hg41
            have hrow2 := encP_get ps (i - 1) (by omega) (by omega)
            refine TD.runG rfl rfl (pure_move rfl) rfl ?_; refine TD.runG rfl rfl (pure_move rfl) rfl ?_; refine TD.runG rfl rfl (pure_indexAddr Ty.sl26 rfl rfl (by omega) (by assumption) (List.cons_ne_nil _ _)) rfl ?_
            first | refine TD.runG rfl rfl (pure_fieldAddr Ty.f38_0 rfl (.zero _) (List.cons_ne_nil _ _)) rfl ?_ | refine TD.runG rfl rfl (pure_fieldAddr_own Ty.f38_0 rfl) rfl ?_
            first | refine TD.runG rfl rfl (pure_load1 Ty.one3 rfl) rfl ?_ | refine TD.runG rfl rfl (pure_load1_own Ty.one3 rfl (by repeat (first | exact List.Mem.head _ | apply List.Mem.tail)) (by repeat (first | exact DropR.zero _ | apply DropR.succ))) rfl ?_
            refine TD.runG rfl rfl (pure_move rfl) rfl ?_; refine TD.runG rfl rfl (pure_move rfl) rfl ?_; refine TD.runG rfl rfl (pure_sub rfl rfl (mkI64 (by omega) (by omega))) rfl ?_; refine TD.runG rfl rfl (pure_indexAddr Ty.sl26 rfl rfl (by omega) (by assumption) (List.cons_ne_nil _ _)) rfl ?_
            first | refine TD.runG rfl rfl (pure_fieldAddr Ty.f38_0 rfl (.zero _) (List.cons_ne_nil _ _)) rfl ?_ | refine TD.runG rfl rfl (pure_fieldAddr_own Ty.f38_0 rfl) rfl ?_
            first | refine TD.runG rfl rfl (pure_load1 Ty.one3 rfl) rfl ?_ | refine TD.runG rfl rfl (pure_load1_own Ty.one3 rfl (by repeat (first | exact List.Mem.head _ | apply List.Mem.tail)) (by repeat (first | exact DropR.zero _ | apply DropR.succ))) rfl ?_
            refine TD.runG rfl rfl (pure_eql rfl rfl) rfl ?_; refine TD.run1 (pure_pick_true rfl rfl) rfl ?_; refine TD.run1 (pure_assign rfl) rfl ?_; refine TD.cutEnd (by repeat (first | exact Same.refl _ _ | refine Same.put rfl ?_)) rfl ?_
            first | (simp only [decide_eq_true_eq, Bool.false_eq_true, false_iff, true_iff, iff_true, iff_false, Bool.not_eq_true]; omega) | (simp_all; done) | (simp_all; omega) | grind
          · try dsimp only at hg41
            refine TD.passG rfl rfl rfl rfl ?_; refine TD.passG rfl rfl rfl rfl ?_; refine TD.passG rfl rfl rfl rfl ?_; refine TD.passG rfl rfl rfl rfl ?_; refine TD.passG rfl rfl rfl rfl ?_; refine TD.passG rfl rfl rfl rfl ?_; refine TD.passG rfl rfl rfl rfl ?_; refine TD.passG rfl rfl rfl rfl ?_; refine TD.passG rfl rfl rfl rfl ?_; refine TD.passG rfl rfl rfl rfl ?_; refine TD.passG rfl rfl rfl rfl ?_; refine TD.passG rfl rfl rfl rfl ?_; refine TD.run1 (pure_pick_false rfl rfl) rfl ?_; refine TD.run1 (pure_assign rfl) rfl ?_; refine TD.cutEnd (by repeat (first | exact Same.refl _ _ | refine Same.put rfl ?_)) rfl ?_
            first | (simp only [decide_eq_true_eq, Bool.false_eq_true, false_iff, true_iff, iff_true, iff_false, Bool.not_eq_true]; omega) | (simp_all; done) | (simp_all; omega) | grind
        first | refine TC.condD rfl (fun hc38 => ?_) (fun hc38 => ?_) | refine TC.condN rfl (fun hc38 => ?_) (fun hc38 => ?_) | refine TC.cond rfl (fun hc38 => ?_) (fun hc38 => ?_)
        · try dsimp only at hc38
          refine TC.seq ?_; refine TC.region ?_; refine TL.run1 (pure_assign rfl) rfl ?_; refine TL.nil' ?_; refine TC.ret ?_; refine block_ret ?_; refine block_ret ?_; refine then_ret ?_; refine loop_ret ?_; refine block_ret ?_; refine then_ret ?_
          have hE : errAt e ps i = 7 := by unfold errAt; rw [if_neg (by rw [hf]; simp), if_pos hc38]
          exact ret_int rfl (by unfold checkP; rw [if_neg hc13, firstErr_at _ i h0 h2 (by rw [hE]; decide) _ (by omega), hE])
        · try dsimp only at hc38
          refine TC.drawCut [56, 57, 58, 59, 60, 61, 62, 63, 64, 65, 66, 67, 68, 69, 70, 71, 55] 55 (i > 0 ∧ (pAt ps i).1 < (pAt ps (i - 1)).1) Ty.follows (by kernel_rfl) ?_ ?_
          · skip
            refine TD.run1 (pure_move rfl) rfl ?_; refine TD.run1 (pure_gtr rfl rfl) rfl ?_; refine TD.run1 (pure_move rfl) rfl ?_
            first | refine TD.splitP 58 rfl (fun hg58 => ?_) (fun hg58 => ?_) | refine TD.split 58 rfl (fun hg58 => ?_) (fun hg58 => ?_)
            · try dsimp only at hg58
              have hrow2 := encP_get ps (i - 1) (by omega) (by omega)
              refine TD.runG rfl rfl (pure_move rfl) rfl ?_; refine TD.runG rfl rfl (pure_move rfl) rfl ?_; refine TD.runG rfl rfl (pure_indexAddr Ty.sl26 rfl rfl (by omega) (by assumption) (List.cons_ne_nil _ _)) rfl ?_
              first | refine TD.runG rfl rfl (pure_fieldAddr Ty.f38_0 rfl (.zero _) (List.cons_ne_nil _ _)) rfl ?_ | refine TD.runG rfl rfl (pure_fieldAddr_own Ty.f38_0 rfl) rfl ?_
              first | refine TD.runG rfl rfl (pure_load1 Ty.one3 rfl) rfl ?_ | refine TD.runG rfl rfl (pure_load1_own Ty.one3 rfl (by repeat (first | exact List.Mem.head _ | apply List.Mem.tail)) (by repeat (first | exact DropR.zero _ | apply DropR.succ))) rfl ?_
              refine TD.runG rfl rfl (pure_move rfl) rfl ?_; refine TD.runG rfl rfl (pure_move rfl) rfl ?_; refine TD.runG rfl rfl (pure_sub rfl rfl (mkI64 (by omega) (by omega))) rfl ?_; refine TD.runG rfl rfl (pure_indexAddr Ty.sl26 rfl rfl (by omega) (by assumption) (List.cons_ne_nil _ _)) rfl ?_
              first | refine TD.runG rfl rfl (pure_fieldAddr Ty.f38_0 rfl (.zero _) (List.cons_ne_nil _ _)) rfl ?_ | refine TD.runG rfl rfl (pure_fieldAddr_own Ty.f38_0 rfl) rfl ?_
              first | refine TD.runG rfl rfl (pure_load1 Ty.one3 rfl) rfl ?_ | refine TD.runG rfl rfl (pure_load1_own Ty.one3 rfl (by repeat (first | exact List.Mem.head _ | apply List.Mem.tail)) (by repeat (first | exact DropR.zero _ | apply DropR.succ))) rfl ?_
              refine TD.runG rfl rfl (pure_lss rfl rfl) rfl ?_; refine TD.run1 (pure_pick_true rfl rfl) rfl ?_; refine TD.run1 (pure_assign rfl) rfl ?_; refine TD.cutEnd (by repeat (first | exact Same.refl _ _ | refine Same.put rfl ?_)) rfl ?_
              first | (simp only [decide_eq_true_eq, Bool.false_eq_true, false_iff, true_iff, iff_true, iff_false, Bool.not_eq_true]; omega) | (simp_all; done) | (simp_all; omega) | grind
            · try dsimp only at hg58
              refine TD.passG rfl rfl rfl rfl ?_; refine TD.passG rfl rfl rfl rfl ?_; refine TD.passG rfl rfl rfl rfl ?_; refine TD.passG rfl rfl rfl rfl ?_; refine TD.passG rfl rfl rfl rfl ?_; refine TD.passG rfl rfl rfl rfl ?_; refine TD.passG rfl rfl rfl rfl ?_; refine TD.passG rfl rfl rfl rfl ?_; refine TD.passG rfl rfl rfl rfl ?_; refine TD.passG rfl rfl rfl rfl ?_; refine TD.passG rfl rfl rfl rfl ?_; refine TD.passG rfl rfl rfl rfl ?_; refine TD.run1 (pure_pick_false rfl rfl) rfl ?_; refine TD.run1 (pure_assign rfl) rfl ?_; refine TD.cutEnd (by repeat (first | exact Same.refl _ _ | refine Same.put rfl ?_)) rfl ?_
              first | (simp only [decide_eq_true_eq, Bool.false_eq_true, false_iff, true_iff, iff_true, iff_false, Bool.not_eq_true]; omega) | (simp_all; done) | (simp_all; omega) | grind
          first | refine TC.condD rfl (fun hc55 => ?_) (fun hc55 => ?_) | refine TC.condN rfl (fun hc55 => ?_) (fun hc55 => ?_) | refine TC.cond rfl (fun hc55 => ?_) (fun hc55 => ?_)
          · try dsimp only at hc55
            refine TC.seq ?_; refine TC.region ?_; refine TL.run1 (pure_assign rfl) rfl ?_; refine TL.nil' ?_; refine TC.ret ?_; refine block_ret ?_; refine block_ret ?_; refine then_ret ?_; refine loop_ret ?_; refine block_ret ?_; refine then_ret ?_
            have hE : errAt e ps i = 6 := by unfold errAt; rw [if_neg (by rw [hf]; simp), if_neg hc38, if_pos hc55]
            exact ret_int rfl (by unfold checkP; rw [if_neg hc13, firstErr_at _ i h0 h2 (by rw [hE]; decide) _ (by omega), hE])
          · try dsimp only at hc55
            refine TC.drawCut [73, 74, 75, 76, 77, 78, 79, 80, 81, 82, 83, 84, 85, 86, 87, 88, 89, 90, 72] 72 ((pAt ps i).2 < (findK (pAt ps i).1).low ∨ (pAt ps i).2 > (findK (pAt ps i).1).high) Ty.follows (by kernel_rfl) ?_ ?_
            · skip
              refine TD.run1 (pure_move rfl) rfl ?_; refine TD.run1 (pure_move rfl) rfl ?_; refine TD.run1 (pure_indexAddr Ty.sl26 rfl rfl (by omega) (by assumption) (List.cons_ne_nil _ _)) rfl ?_
              first | refine TD.run1 (pure_fieldAddr Ty.f38_1 rfl (.succ (.zero _)) (List.cons_ne_nil _ _)) rfl ?_ | refine TD.run1 (pure_fieldAddr_own Ty.f38_1 rfl) rfl ?_
              first | refine TD.run1 (pure_load1 Ty.one3 rfl) rfl ?_ | refine TD.run1 (pure_load1_own Ty.one3 rfl (by repeat (first | exact List.Mem.head _ | apply List.Mem.tail)) (by repeat (first | exact DropR.zero _ | apply DropR.succ))) rfl ?_
              first | refine TD.run1 (pure_fieldAddr Ty.f40_2 rfl (.succ (.succ (.zero _))) (List.cons_ne_nil _ _)) rfl ?_ | refine TD.run1 (pure_fieldAddr_own Ty.f40_2 rfl) rfl ?_
              first | refine TD.run1 (pure_load1 Ty.one3 rfl) rfl ?_ | refine TD.run1 (pure_load1_own Ty.one3 rfl (by repeat (first | exact List.Mem.head _ | apply List.Mem.tail)) (by repeat (first | exact DropR.zero _ | apply DropR.succ))) rfl ?_
              refine TD.run1 (pure_lss rfl rfl) rfl ?_; refine TD.run1 (pure_move rfl) rfl ?_
              first | refine TD.splitP 81 rfl (fun hg81 => ?_) (fun hg81 => ?_) | refine TD.split 81 rfl (fun hg81 => ?_) (fun hg81 => ?_)
              · try dsimp only at hg81
                refine TD.passG rfl rfl rfl rfl ?_; refine TD.passG rfl rfl rfl rfl ?_; refine TD.passG rfl rfl rfl rfl ?_; refine TD.passG rfl rfl rfl rfl ?_; refine TD.passG rfl rfl rfl rfl ?_; refine TD.passG rfl rfl rfl rfl ?_; refine TD.passG rfl rfl rfl rfl ?_; refine TD.passG rfl rfl rfl rfl ?_; refine TD.run1 (pure_pick_true rfl rfl) rfl ?_; refine TD.run1 (pure_assign rfl) rfl ?_; refine TD.cutEnd (by repeat (first | exact Same.refl _ _ | refine Same.put rfl ?_)) rfl ?_
                first | (simp only [decide_eq_true_eq, Bool.false_eq_true, false_iff, true_iff, iff_true, iff_false, Bool.not_eq_true]; omega) | (simp_all; done) | (simp_all; omega) | grind
              · try dsimp only at hg81
                refine TD.runG rfl rfl (pure_move rfl) rfl ?_; refine TD.runG rfl rfl (pure_move rfl) rfl ?_; refine TD.runG rfl rfl (pure_indexAddr Ty.sl26 rfl rfl (by omega) (by assumption) (List.cons_ne_nil _ _)) rfl ?_
                first | refine TD.runG rfl rfl (pure_fieldAddr Ty.f38_1 rfl (.succ (.zero _)) (List.cons_ne_nil _ _)) rfl ?_ | refine TD.runG rfl rfl (pure_fieldAddr_own Ty.f38_1 rfl) rfl ?_
                first | refine TD.runG rfl rfl (pure_load1 Ty.one3 rfl) rfl ?_ | refine TD.runG rfl rfl (pure_load1_own Ty.one3 rfl (by repeat (first | exact List.Mem.head _ | apply List.Mem.tail)) (by repeat (first | exact DropR.zero _ | apply DropR.succ))) rfl ?_
                first | refine TD.runG rfl rfl (pure_fieldAddr Ty.f40_3 rfl (.succ (.succ (.succ (.zero _)))) (List.cons_ne_nil _ _)) rfl ?_ | refine TD.runG rfl rfl (pure_fieldAddr_own Ty.f40_3 rfl) rfl ?_
                first | refine TD.runG rfl rfl (pure_load1 Ty.one3 rfl) rfl ?_ | refine TD.runG rfl rfl (pure_load1_own Ty.one3 rfl (by repeat (first | exact List.Mem.head _ | apply List.Mem.tail)) (by repeat (first | exact DropR.zero _ | apply DropR.succ))) rfl ?_
                refine TD.runG rfl rfl (pure_gtr rfl rfl) rfl ?_; refine TD.run1 (pure_pick_false rfl rfl) rfl ?_; refine TD.run1 (pure_assign rfl) rfl ?_; refine TD.cutEnd (by repeat (first | exact Same.refl _ _ | refine Same.put rfl ?_)) rfl ?_
                first | (simp only [decide_eq_true_eq, Bool.false_eq_true, false_iff, true_iff, iff_true, iff_false, Bool.not_eq_true]; omega) | (simp_all; done) | (simp_all; omega) | grind
            first | refine TC.condD rfl (fun hc72 => ?_) (fun hc72 => ?_) | refine TC.condN rfl (fun hc72 => ?_) (fun hc72 => ?_) | refine TC.cond rfl (fun hc72 => ?_) (fun hc72 => ?_)
            · try dsimp only at hc72
              refine TC.seq ?_; refine TC.region ?_; refine TL.run1 (pure_assign rfl) rfl ?_; refine TL.nil' ?_; refine TC.ret ?_; refine block_ret ?_; refine block_ret ?_; refine then_ret ?_; refine loop_ret ?_; refine block_ret ?_; refine then_ret ?_
              have hE : errAt e ps i = 5 := by unfold errAt; unfold checkV; rw [if_neg (by rw [hf]; simp), if_neg hc38, if_neg hc55, if_neg (by rw [fits_in hf]; simp), if_pos hc72]
              exact ret_int rfl (by unfold checkP; rw [if_neg hc13, firstErr_at _ i h0 h2 (by rw [hE]; decide) _ (by omega), hE])
            · try dsimp only at hc72
              refine TC.skip ?_; refine block_normal ?_; refine block_normal ?_; refine then_normal ?_; refine TC.region ?_; refine TL.run1 (pure_move rfl) rfl ?_; refine TL.run1 (pure_add rfl rfl (mkI64 (by omega) (by omega))) rfl ?_; refine TL.run1 (pure_assign rfl) rfl ?_; refine TL.nil ?_
              refine loop_next (i + 1) ⟨by repeat (first | exact Agree.nil | refine Agree.cons rfl ?_), by repeat (first | exact List.nil_sublist _ | exact List.Sublist.refl _ | apply List.Sublist.cons_cons | apply List.Sublist.cons)⟩ ⟨by omega, by omega, fun j a b => ?_⟩ (by omega)
              rcases Int.lt_or_eq_of_le (show j ≤ i by omega) with h | h
              · exact h2 j a h
              · rw [h]; unfold errAt checkV; rw [if_neg (by rw [hf]; simp), if_neg hc38, if_neg hc55, if_neg (by rw [fits_in hf]; simp), if_neg hc72]
    · try dsimp only at hc17
      refine TC.exit ?_; refine then_exit ?_; refine loop_exit ?_; refine block_here ?_; refine then_normal ?_; refine TC.seq ?_; refine TC.region ?_; refine TL.run1 (pure_assign rfl) rfl ?_; refine TL.nil' ?_; refine TC.ret ?_
      exact ret_int rfl (by unfold checkP; rw [if_neg hc13, firstErr_zero _ _ (fun j a b => h2 j a (by omega))])
-- ordered_spec: not in this seat

theorem eqP_ext (a b : List (Int × Int)) (hl : a.length = b.length) (h : ∀ j : Int, 0 ≤ j → j < a.length → pAt a j = pAt b j) : a = b := by
  refine List.ext_getElem hl fun j h1 h2 => ?_
  have := h j (by omega) (by omega)
  simpa [pAt, h1, h2] using this
-- REqual_spec: not in this seat

theorem clearP_take (l : List (Int × Int)) (key : Int) (i : Int) (h0 : 0 ≤ i) (h1 : i < l.length) : clearP (l.take (i + 1).toNat) key = if (pAt l i).1 ≠ key then clearP (l.take i.toNat) key ++ [pAt l i] else clearP (l.take i.toNat) key := by
  have hl : i.toNat < l.length := by omega
  rw [show (i + 1).toNat = i.toNat + 1 by omega, List.take_succ_eq_append_getElem hl]
  have : l[i.toNat] = pAt l i := by simp [pAt, hl]
  rw [this]
  unfold clearP
  rw [List.filter_append]
  by_cases h : (pAt l i).1 ≠ key
  · rw [if_pos h, List.filter_cons_of_pos (by simpa using h)]; rfl
  · rw [if_neg h, List.filter_cons_of_neg (by simpa using h)]; simp
theorem take_all (l : List (Int × Int)) (i : Int) (h : (l.length : Int) ≤ i) : l.take i.toNat = l := List.take_of_length_le (by omega)
theorem takeP_snoc (l : List (Int × Int)) (i : Int) (h0 : 0 ≤ i) (h1 : i < l.length) : l.take (i + 1).toNat = l.take i.toNat ++ [pAt l i] := by
  have hl : i.toNat < l.length := by omega
  rw [show (i + 1).toNat = i.toNat + 1 by omega, List.take_succ_eq_append_getElem hl]
  simp [pAt, hl]
theorem while_at (l : List (Int × Int)) (key : Int) : ∀ (i : Int), 0 ≤ i → i ≤ l.length → (∀ j : Int, 0 ≤ j → j < i → (pAt l j).1 < key) → (i < l.length → ¬ (pAt l i).1 < key) →
    l.takeWhile (fun p => decide (p.1 < key)) = l.take i.toNat ∧ l.dropWhile (fun p => decide (p.1 < key)) = l.drop i.toNat := by
  have key' : ∀ (l : List (Int × Int)) (n : Nat), n ≤ l.length → (∀ m, m < n → (l.getD m (0, 0)).1 < key) → (n < l.length → ¬ (l.getD n (0, 0)).1 < key) →
      l.takeWhile (fun p => decide (p.1 < key)) = l.take n ∧ l.dropWhile (fun p => decide (p.1 < key)) = l.drop n := by
    intro l
    induction l with
    | nil => intro n; simp
    | cons p l ih =>
      intro n hn h1 h2
      cases n with
      | zero =>
        have := h2 (by simp)
        simp only [List.getD_cons_zero] at this
        rw [List.takeWhile_cons_of_neg (by simpa using this), List.dropWhile_cons_of_neg (by simpa using this)]
        exact ⟨rfl, rfl⟩
      | succ n =>
        have := h1 0 (by omega)
        simp only [List.getD_cons_zero] at this
        obtain ⟨i1, i2⟩ := ih n (by simpa using hn) (fun m hm => by have := h1 (m + 1) (by omega); simpa using this) (fun hl => by have := h2 (by simpa using hl); simpa using this)
        rw [List.takeWhile_cons_of_pos (by simpa using this), List.dropWhile_cons_of_pos (by simpa using this), i1, i2]
        exact ⟨rfl, rfl⟩
  intro i h0 h1 h2 h3
  exact key' l i.toNat (by omega) (fun m hm => by have := h2 m (by omega) (by omega); simpa [pAt] using this) (fun hl => h3 (by omega))
-- RClear_spec: not in this seat
-- RSet_spec: not in this seat
end Go.Ob
set_option linter.unusedVariables false
set_option linter.unusedSimpArgs false
namespace Go.Ob
open Go.Proofs

theorem mergeR_take (a b : List (Int × Int)) (i : Int) (h0 : 0 ≤ i) (h1 : i < b.length) : mergeR a (b.take (i + 1).toNat) = setP (mergeR a (b.take i.toNat)) (pAt b i).1 (pAt b i).2 := by
  rw [takeP_snoc b i h0 h1]; unfold mergeR; rw [List.foldl_append]; rfl
def encO : Option (Int × Int) → D
  | none => .v (.pointer none)
  | some p => .at_ [.v (.int .i64 p.1), .v (.int .i64 p.2)]
def encPairs (l : List (Option (Int × Int) × Option (Int × Int))) : List (List D) := l.map fun p => [encO p.1, encO p.2]
theorem encPairs_get {l : List (Option (Int × Int) × Option (Int × Int))} {k : Nat} {x : List D} (h : (encPairs l)[k]? = some x) : ∃ p, l[k]? = some p ∧ x = [encO p.1, encO p.2] := by
  simp only [encPairs, List.getElem?_map, Option.map_eq_some_iff] at h
  obtain ⟨p, h1, rfl⟩ := h
  exact ⟨p, h1, rfl⟩
theorem pairs_some (a b : List (Int × Int)) : ∀ p ∈ pairsL a b, p.1.isSome = true ∨ p.2.isSome = true := by
  fun_induction pairsL a b <;> simp_all
section
variable {P : Program} {H : Hp} {env : Env} {dst : Option Tmp} {ty : TypeId} {pos : String} {af : Array Edge} {gd : Option (Nat × Bool)} {t t2 e : TypeId} {x y : Operand}
theorem pure_neq_encO {o : Option (Int × Int)} (ht : P.underlying t = some (.pointer e)) (hx : opD env x = some (encO o)) (hy : opD env y = some (.v (.pointer none))) :
    Pure P H ⟨dst, .binOp .neq t x y t2, ty, pos, af, gd⟩ env (.v (.bool o.isSome)) := by
  cases o with
  | none => exact pure_neq_nil ht hx hy
  | some p => exact pure_neq_at ht hx hy
end
theorem mergeP_take {a b : List (Int × Int)} {k : Nat} {p : Option (Int × Int) × Option (Int × Int)} (h : (pairsL a b)[k]? = some p) : (mergeP a b).take (k + 1) = (mergeP a b).take k ++ [pickP p] := by
  have hl : k < (pairsL a b).length := (List.getElem?_eq_some_iff.1 h).1
  have he := (List.getElem?_eq_some_iff.1 h).2
  unfold mergeP
  rw [List.take_succ_eq_append_getElem (by simpa using hl)]
  simp [he]
/-! ### changes -/
structure Ch where
  key : Int
  old : Int
  new : Int
  had : Bool
  has : Bool
deriving DecidableEq
def encCh (c : Ch) : List D := [.v (.int .i64 c.key), .v (.int .i64 c.old), .v (.int .i64 c.new), .v (.bool c.had), .v (.bool c.has)]
def encD (l : List Ch) : List (List D) := l.map encCh
def ch0 : Ch := ⟨0, 0, 0, false, false⟩
def hAt (l : List Ch) (i : Int) : Ch := l.getD i.toNat ch0
theorem encD_len (l : List Ch) : (encD l).length = l.length := by simp [encD]
theorem encD_get (l : List Ch) (i : Int) (h0 : 0 ≤ i) (h1 : i < l.length) : (encD l)[i.toNat]? = some (encCh (hAt l i)) := by
  have : i.toNat < l.length := by omega
  simp [encD, hAt, this]
theorem encD_snoc (l : List Ch) (c : Ch) : encD (l ++ [c]) = encD l ++ [encCh c] := by simp [encD]
theorem encD_each (l : List Ch) : ∀ x ∈ encD l, x.length = 5 := by
  intro x hx; simp only [encD, List.mem_map] at hx; obtain ⟨s, _, rfl⟩ := hx; rfl
def chOf (p : Option (Int × Int) × Option (Int × Int)) : Ch := ⟨(pickP p).1, (p.1.getD (0, 0)).2, (p.2.getD (0, 0)).2, p.1.isSome, p.2.isSome⟩
def keepB (c : Ch) : Bool := decide (c.old ≠ c.new) || decide (c.had ≠ c.has)
def diffTo (l : List (Option (Int × Int) × Option (Int × Int))) : List Ch := (l.map chOf).filter keepB
def diffP (a b : List (Int × Int)) : List Ch := diffTo (pairsL a b)
theorem diffTo_take {l : List (Option (Int × Int) × Option (Int × Int))} {k : Nat} {p : Option (Int × Int) × Option (Int × Int)} (h : l[k]? = some p) : diffTo (l.take (k + 1)) = if keepB (chOf p) = true then diffTo (l.take k) ++ [chOf p] else diffTo (l.take k) := by
  have hl : k < l.length := (List.getElem?_eq_some_iff.1 h).1
  have he := (List.getElem?_eq_some_iff.1 h).2
  unfold diffTo
  rw [List.take_succ_eq_append_getElem hl, he, List.map_append, List.filter_append]
  by_cases hk : keepB (chOf p) = true
  · rw [if_pos hk, List.map_cons, List.filter_cons_of_pos hk]; rfl
  · rw [if_neg hk, List.map_cons, List.filter_cons_of_neg hk]; simp
theorem diffTo_len (l : List (Option (Int × Int) × Option (Int × Int))) : (diffTo l).length ≤ l.length := by
  unfold diffTo
  exact Nat.le_trans (List.length_filter_le _ _) (by simp)
-- RMerge_spec: not in this seat
-- Keys_spec: not in this seat
-- RKeys_spec: not in this seat
-- Find_spec: not in this seat
-- Named_spec: not in this seat

theorem look_at (l : List (Int × Int)) (key : Int) : ∀ (i : Int), 0 ≤ i → i < l.length → (pAt l i).1 = key → (∀ j : Int, 0 ≤ j → j < i → (pAt l j).1 ≠ key) → lookP l key = some (pAt l i).2 := by
  have key' : ∀ (l : List (Int × Int)) (n : Nat), n < l.length → (l.getD n (0, 0)).1 = key → (∀ m, m < n → (l.getD m (0, 0)).1 ≠ key) → lookP l key = some (l.getD n (0, 0)).2 := by
    intro l
    induction l with
    | nil => intro n h; simp at h
    | cons p l ih =>
      intro n hn h1 h2
      cases n with
      | zero => simp only [List.getD_cons_zero] at h1 ⊢; rw [lookP, if_pos h1]
      | succ n =>
        have := h2 0 (by omega)
        simp only [List.getD_cons_zero] at this
        rw [lookP, if_neg this, ih n (by simpa using hn) (by simpa using h1) (fun m hm => by have := h2 (m + 1) (by omega); simpa using this)]
        simp
  intro i h0 h1 h2 h3
  exact key' l i.toNat (by omega) h2 (fun m hm => by have := h3 m (by omega) (by omega); simpa [pAt] using this)
theorem look_none (l : List (Int × Int)) (key : Int) (h : ∀ j : Int, 0 ≤ j → j < l.length → (pAt l j).1 ≠ key) : lookP l key = none := lookP_none l key fun p hp => by
  obtain ⟨n, hn, rfl⟩ := List.getElem_of_mem hp
  have := h n (by omega) (by omega)
  simpa [pAt, hn] using this
-- RGet_spec: not in this seat
set_option maxRecDepth 100000 in
theorem Group_spec (key : Int) : Fun Try.prog 77 [.v (.int .i64 key)] (.tup [.v (.int .i64 (findK key).group), .v (.int .i64 (if inI (keysK tableK) key = true then 0 else 4))]) := by
  refine Fun.enter (n := 15) (rs := [.tmp 2, .tmp 3]) Try.func77 rfl Try.ntmps77 Try.results77 rfl (fun w F => ?_)
  refine TC.seq ?_; refine TC.region ?_; refine TL.run1 (pure_assign rfl) rfl ?_; refine TL.run1 (pure_assign rfl) rfl ?_; refine TL.nil' ?_; refine TC.seq ?_; refine TC.region ?_; refine TL.run1 (pure_move rfl) rfl ?_; refine TL.run1 (pure_call (findK_spec _) (.cons rfl .nil) Try.call84) rfl ?_; refine TL.run1 (pure_move rfl) rfl ?_; refine TL.run1 (pure_extract rfl rfl) rfl ?_; refine TL.run1 (pure_extract rfl rfl) rfl ?_
  refine TL.alloc Ty.zero103 rfl (fun g4 => ?_)
  refine TL.store rfl rfl (.agg _) Try.sizeOf103 rfl (by repeat (first | exact UpdR.here _ | apply UpdR.there)) (by repeat (first | exact PutR.nil _ | apply PutR.here | apply PutR.skip)) ?_; refine TL.run1 (pure_assign rfl) rfl ?_; refine TL.nil' ?_; refine TC.seq ?_; refine TC.seq ?_; refine TC.region ?_; refine TL.run1 (pure_move rfl) rfl ?_; refine TL.run1 (pure_not rfl) rfl ?_; refine TL.nil' ?_
  first | refine TC.condD rfl (fun hc12 => ?_) (fun hc12 => ?_) | refine TC.condN rfl (fun hc12 => ?_) (fun hc12 => ?_) | refine TC.cond rfl (fun hc12 => ?_) (fun hc12 => ?_)
  · try dsimp only at hc12
    have hin : inI (keysK tableK) key = false := decide_eq_false hc12
    refine TC.seq ?_; refine TC.region ?_; refine TL.run1 (pure_assign rfl) rfl ?_; refine TL.run1 (pure_assign rfl) rfl ?_; refine TL.nil' ?_; refine TC.ret ?_; refine then_ret ?_
    exact ret2 (.inl rfl) rfl rfl (by first | (unfold findK; rw [hin]; rfl) | (rw [hin]; rfl))
  · try dsimp only at hc12
    have hin : inI (keysK tableK) key = true := decide_eq_true hc12
    refine TC.skip' ?_; refine TC.seq ?_; refine TC.region ?_
    first | refine TL.run1 (pure_fieldAddr Ty.f103_1 rfl (.succ (.zero _)) (List.cons_ne_nil _ _)) rfl ?_ | refine TL.run1 (pure_fieldAddr_own Ty.f103_1 rfl) rfl ?_
    first | refine TL.run1 (pure_load1 Ty.one3 rfl) rfl ?_ | refine TL.run1 (pure_load1_own Ty.one3 rfl (by repeat (first | exact List.Mem.head _ | apply List.Mem.tail)) (by repeat (first | exact DropR.zero _ | apply DropR.succ))) rfl ?_
    refine TL.run1 (pure_assign rfl) rfl ?_; refine TL.run1 (pure_assign rfl) rfl ?_; refine TL.nil' ?_; refine TC.ret ?_
    exact ret2 (.inl rfl) rfl rfl (by first | (unfold findK; rw [hin]; rfl) | (rw [hin]; rfl))
-- Name_spec: not in this seat
-- Bounds_spec: not in this seat
end Go.Ob
set_option linter.unusedVariables false
set_option linter.unusedSimpArgs false
namespace Go.Ob
open Go.Proofs
set_option maxRecDepth 100000 in
theorem pairs_seq (a b : List (Int × Int)) (hla : a.length ≤ 1000000) (hlb : b.length ≤ 1000000) : SeqD Try.prog 89 [.at_ [.sl 2 (encP a)], .at_ [.sl 2 (encP b)]] (encPairs (pairsL a b)) := by
  refine SeqD.enter Try.func89 rfl Try.ntmps89 Try.results89 rfl (fun l J Jx w F H0 hJ0 hy => ?_)
  have hka := encP_len a
  have hkb := encP_len b
  refine TC.seq ?_; refine TC.region ?_; refine TL.run1 (pure_assign rfl) rfl ?_; refine TL.run1 (pure_assign rfl) rfl ?_; refine TL.nil' ?_; refine TC.block ?_; refine TC.loopX (X := Int × Int × Nat × Hp) (fun (i, k, n, Hc) => [(0, .v (.func (.yield l) #[] #[])), (1, .at_ [.sl 2 (encP a)]), (2, .at_ [.sl 2 (encP b)]), (4, .v (.int .i64 i)), (5, .v (.int .i64 k))]) (fun (i, k, n, Hc) => Hc) (fun (i, k, n, Hc) => (0 ≤ i) ∧ (i ≤ a.length) ∧ (0 ≤ k) ∧ (k ≤ b.length) ∧ (n ≤ (encPairs (pairsL a b)).length) ∧ (J n Hc) ∧ ((encPairs (pairsL a b)).drop n = encPairs (pairsL (a.drop i.toNat) (b.drop k.toNat)))) (fun (i, k, n, Hc) => (a.length - i).toNat + (b.length - k).toNat) (0, 0, 0, H0) ⟨by skip; repeat (first | exact Agree.nil | refine Agree.cons rfl ?_), by skip; repeat (first | exact List.nil_sublist _ | exact List.Sublist.refl _ | apply List.Sublist.cons_cons | apply List.Sublist.cons)⟩ ?_ ?_
  · skip
    exact ⟨by omega, by omega, by omega, by omega, by omega, hJ0, rfl⟩
  rintro ⟨i, k, n, Hc⟩
  rintro ⟨h0, h1, h2, h3, hn, hJ, hd⟩
  show TC _ _ _ (Env.of [(0, .v (.func (.yield l) #[] #[])), (1, .at_ [.sl 2 (encP a)]), (2, .at_ [.sl 2 (encP b)]), (4, .v (.int .i64 i)), (5, .v (.int .i64 k))]) Hc
  refine TC.seq ?_; refine TC.regionCut [8, 9, 10, 11, 12, 13, 14, 15, 16, 17] 17 (i < a.length ∨ k < b.length) ?_ ?_
  · skip
    refine TL.run1 (pure_move rfl) rfl ?_
    first | refine TL.run1 (pure_load1 Ty.one26 rfl) rfl ?_ | refine TL.run1 (pure_load1_own Ty.one26 rfl (by repeat (first | exact List.Mem.head _ | apply List.Mem.tail)) (by repeat (first | exact DropR.zero _ | apply DropR.succ))) rfl ?_
    first | refine TL.run1 (pure_len Ty.sl26 rfl) rfl ?_ | refine TL.run1 (pure_len_row Ty.sl26 rfl (by repeat (first | exact List.Mem.head _ | apply List.Mem.tail))) rfl ?_ | refine TL.run1 (pure_len_nil Ty.sl26 rfl) rfl ?_
    refine TL.run1 (pure_lss rfl rfl) rfl ?_; refine TL.run1 (pure_move rfl) rfl ?_
    first | refine TL.splitP 12 rfl (fun hg12 => ?_) (fun hg12 => ?_) | refine TL.split 12 rfl (fun hg12 => ?_) (fun hg12 => ?_)
    · try dsimp only at hg12
      refine TL.passG rfl rfl rfl rfl ?_; refine TL.passG rfl rfl rfl rfl ?_; refine TL.passG rfl rfl rfl rfl ?_; refine TL.passG rfl rfl rfl rfl ?_; refine TL.run1 (pure_pick_true rfl rfl) rfl ?_; refine TL.cutEnd (by repeat (first | exact Same.refl _ _ | refine Same.put rfl ?_)) rfl ?_
      first | (simp only [decide_eq_true_eq, Bool.false_eq_true, false_iff, true_iff, iff_true, iff_false, Bool.not_eq_true]; omega) | (simp_all; done) | (simp_all; omega) | grind
    · try dsimp only at hg12
      refine TL.runG rfl rfl (pure_move rfl) rfl ?_
      first | refine TL.runG rfl rfl (pure_load1 Ty.one26 rfl) rfl ?_ | refine TL.runG rfl rfl (pure_load1_own Ty.one26 rfl (by repeat (first | exact List.Mem.head _ | apply List.Mem.tail)) (by repeat (first | exact DropR.zero _ | apply DropR.succ))) rfl ?_
      first | refine TL.runG rfl rfl (pure_len Ty.sl26 rfl) rfl ?_ | refine TL.runG rfl rfl (pure_len_row Ty.sl26 rfl (by repeat (first | exact List.Mem.head _ | apply List.Mem.tail))) rfl ?_ | refine TL.runG rfl rfl (pure_len_nil Ty.sl26 rfl) rfl ?_
      refine TL.runG rfl rfl (pure_lss rfl rfl) rfl ?_; refine TL.run1 (pure_pick_false rfl rfl) rfl ?_; refine TL.cutEnd (by repeat (first | exact Same.refl _ _ | refine Same.put rfl ?_)) rfl ?_
      first | (simp only [decide_eq_true_eq, Bool.false_eq_true, false_iff, true_iff, iff_true, iff_false, Bool.not_eq_true]; omega) | (simp_all; done) | (simp_all; omega) | grind
  first | refine TC.condD rfl (fun hc17 => ?_) (fun hc17 => ?_) | refine TC.condN rfl (fun hc17 => ?_) (fun hc17 => ?_) | refine TC.cond rfl (fun hc17 => ?_) (fun hc17 => ?_)
  · try dsimp only at hc17
    refine TC.skip' ?_; refine TC.block ?_; refine TC.seq ?_; refine TC.region ?_; refine TL.run1 (pure_assign rfl) rfl ?_; refine TL.run1 (pure_assign rfl) rfl ?_; refine TL.nil' ?_; refine TC.seq ?_; refine TC.drawCut [18, 19, 20, 21, 22, 23, 24, 25, 26, 27, 28, 29, 30, 31, 32, 33, 34, 35, 36, 37, 38, 39, 40] 40 (k = b.length ∨ i < a.length ∧ (pAt a i).1 ≤ (pAt b k).1) Ty.follows (by kernel_rfl) ?_ ?_
    · skip
      refine TD.run1 (pure_move rfl) rfl ?_
      first | refine TD.run1 (pure_load1 Ty.one26 rfl) rfl ?_ | refine TD.run1 (pure_load1_own Ty.one26 rfl (by repeat (first | exact List.Mem.head _ | apply List.Mem.tail)) (by repeat (first | exact DropR.zero _ | apply DropR.succ))) rfl ?_
      first | refine TD.run1 (pure_len Ty.sl26 rfl) rfl ?_ | refine TD.run1 (pure_len_row Ty.sl26 rfl (by repeat (first | exact List.Mem.head _ | apply List.Mem.tail))) rfl ?_ | refine TD.run1 (pure_len_nil Ty.sl26 rfl) rfl ?_
      refine TD.run1 (pure_eql rfl rfl) rfl ?_; refine TD.run1 (pure_move rfl) rfl ?_
      first | refine TD.splitP 22 rfl (fun hg22 => ?_) (fun hg22 => ?_) | refine TD.split 22 rfl (fun hg22 => ?_) (fun hg22 => ?_)
      · try dsimp only at hg22
        refine TD.passG rfl rfl rfl rfl ?_; refine TD.passG rfl rfl rfl rfl ?_; refine TD.passG rfl rfl rfl rfl ?_; refine TD.passG rfl rfl rfl rfl ?_; refine TD.passG rfl rfl rfl rfl ?_; refine TD.passG rfl rfl rfl rfl ?_; refine TD.passG rfl rfl rfl rfl ?_; refine TD.passG rfl rfl rfl rfl ?_; refine TD.passG rfl rfl rfl rfl ?_; refine TD.passG rfl rfl rfl rfl ?_; refine TD.passG rfl rfl rfl rfl ?_; refine TD.passG rfl rfl rfl rfl ?_; refine TD.passG rfl rfl rfl rfl ?_; refine TD.passG rfl rfl rfl rfl ?_; refine TD.passG rfl rfl rfl rfl ?_; refine TD.passG rfl rfl rfl rfl ?_; refine TD.passG rfl rfl rfl rfl ?_; refine TD.run1 (pure_pick_true rfl rfl) rfl ?_; refine TD.cutEnd (by repeat (first | exact Same.refl _ _ | refine Same.put rfl ?_)) rfl ?_
        first | (simp only [decide_eq_true_eq, Bool.false_eq_true, false_iff, true_iff, iff_true, iff_false, Bool.not_eq_true]; omega) | (simp_all; done) | (simp_all; omega) | grind
      · try dsimp only at hg22
        refine TD.runG rfl rfl (pure_move rfl) rfl ?_
        first | refine TD.runG rfl rfl (pure_load1 Ty.one26 rfl) rfl ?_ | refine TD.runG rfl rfl (pure_load1_own Ty.one26 rfl (by repeat (first | exact List.Mem.head _ | apply List.Mem.tail)) (by repeat (first | exact DropR.zero _ | apply DropR.succ))) rfl ?_
        first | refine TD.runG rfl rfl (pure_len Ty.sl26 rfl) rfl ?_ | refine TD.runG rfl rfl (pure_len_row Ty.sl26 rfl (by repeat (first | exact List.Mem.head _ | apply List.Mem.tail))) rfl ?_ | refine TD.runG rfl rfl (pure_len_nil Ty.sl26 rfl) rfl ?_
        refine TD.runG rfl rfl (pure_lss rfl rfl) rfl ?_; refine TD.runG rfl rfl (pure_move rfl) rfl ?_
        first | refine TD.splitP 27 rfl (fun hg27 => ?_) (fun hg27 => ?_) | refine TD.split 27 rfl (fun hg27 => ?_) (fun hg27 => ?_)
        · try dsimp only at hg27
          have hra := encP_get a i (by omega) (by omega)
          have hrb := encP_get b k (by omega) (by omega)
          first | refine TD.runG rfl rfl (pure_load1 Ty.one26 rfl) rfl ?_ | refine TD.runG rfl rfl (pure_load1_own Ty.one26 rfl (by repeat (first | exact List.Mem.head _ | apply List.Mem.tail)) (by repeat (first | exact DropR.zero _ | apply DropR.succ))) rfl ?_
          refine TD.runG rfl rfl (pure_move rfl) rfl ?_; refine TD.runG rfl rfl (pure_indexAddr Ty.sl26 rfl rfl (by omega) (by assumption) (List.cons_ne_nil _ _)) rfl ?_
          first | refine TD.runG rfl rfl (pure_fieldAddr Ty.f38_0 rfl (.zero _) (List.cons_ne_nil _ _)) rfl ?_ | refine TD.runG rfl rfl (pure_fieldAddr_own Ty.f38_0 rfl) rfl ?_
          first | refine TD.runG rfl rfl (pure_load1 Ty.one3 rfl) rfl ?_ | refine TD.runG rfl rfl (pure_load1_own Ty.one3 rfl (by repeat (first | exact List.Mem.head _ | apply List.Mem.tail)) (by repeat (first | exact DropR.zero _ | apply DropR.succ))) rfl ?_
          first | refine TD.runG rfl rfl (pure_load1 Ty.one26 rfl) rfl ?_ | refine TD.runG rfl rfl (pure_load1_own Ty.one26 rfl (by repeat (first | exact List.Mem.head _ | apply List.Mem.tail)) (by repeat (first | exact DropR.zero _ | apply DropR.succ))) rfl ?_
          refine TD.runG rfl rfl (pure_move rfl) rfl ?_; refine TD.runG rfl rfl (pure_indexAddr Ty.sl26 rfl rfl (by omega) (by assumption) (List.cons_ne_nil _ _)) rfl ?_
          first | refine TD.runG rfl rfl (pure_fieldAddr Ty.f38_0 rfl (.zero _) (List.cons_ne_nil _ _)) rfl ?_ | refine TD.runG rfl rfl (pure_fieldAddr_own Ty.f38_0 rfl) rfl ?_
          first | refine TD.runG rfl rfl (pure_load1 Ty.one3 rfl) rfl ?_ | refine TD.runG rfl rfl (pure_load1_own Ty.one3 rfl (by repeat (first | exact List.Mem.head _ | apply List.Mem.tail)) (by repeat (first | exact DropR.zero _ | apply DropR.succ))) rfl ?_
          refine TD.runG rfl rfl (pure_leq rfl rfl) rfl ?_; refine TD.runG rfl rfl (pure_pick_true rfl rfl) rfl ?_; refine TD.run1 (pure_pick_false rfl rfl) rfl ?_; refine TD.cutEnd (by repeat (first | exact Same.refl _ _ | refine Same.put rfl ?_)) rfl ?_
          first | (simp only [decide_eq_true_eq, Bool.false_eq_true, false_iff, true_iff, iff_true, iff_false, Bool.not_eq_true]; omega) | (simp_all; done) | (simp_all; omega) | grind
        · try dsimp only at hg27
          refine TD.passG rfl rfl rfl rfl ?_; refine TD.passG rfl rfl rfl rfl ?_; refine TD.passG rfl rfl rfl rfl ?_; refine TD.passG rfl rfl rfl rfl ?_; refine TD.passG rfl rfl rfl rfl ?_; refine TD.passG rfl rfl rfl rfl ?_; refine TD.passG rfl rfl rfl rfl ?_; refine TD.passG rfl rfl rfl rfl ?_; refine TD.passG rfl rfl rfl rfl ?_; refine TD.passG rfl rfl rfl rfl ?_; refine TD.passG rfl rfl rfl rfl ?_; refine TD.runG rfl rfl (pure_pick_false rfl rfl) rfl ?_; refine TD.run1 (pure_pick_false rfl rfl) rfl ?_; refine TD.cutEnd (by repeat (first | exact Same.refl _ _ | refine Same.put rfl ?_)) rfl ?_
          first | (simp only [decide_eq_true_eq, Bool.false_eq_true, false_iff, true_iff, iff_true, iff_false, Bool.not_eq_true]; omega) | (simp_all; done) | (simp_all; omega) | grind
    first | refine TC.condD rfl (fun hc40 => ?_) (fun hc40 => ?_) | refine TC.condN rfl (fun hc40 => ?_) (fun hc40 => ?_) | refine TC.cond rfl (fun hc40 => ?_) (fun hc40 => ?_)
    · try dsimp only at hc40
      have hra := encP_get a i (by omega) (by omega)
      refine TC.region ?_
      first | refine TL.run1 (pure_load1 Ty.one26 rfl) rfl ?_ | refine TL.run1 (pure_load1_own Ty.one26 rfl (by repeat (first | exact List.Mem.head _ | apply List.Mem.tail)) (by repeat (first | exact DropR.zero _ | apply DropR.succ))) rfl ?_
      refine TL.run1 (pure_move rfl) rfl ?_; refine TL.run1 (pure_indexAddr Ty.sl26 rfl rfl (by omega) (by assumption) (List.cons_ne_nil _ _)) rfl ?_; refine TL.run1 (pure_assign rfl) rfl ?_; refine TL.nil' ?_; refine TC.seq ?_; refine TC.drawCut [44, 45, 46, 47, 48, 49, 50, 51, 52, 53, 54, 55, 56, 57, 58, 59, 60, 61, 62, 63, 64, 65, 66] 66 (i = a.length ∨ k < b.length ∧ (pAt b k).1 ≤ (pAt a i).1) Ty.follows (by kernel_rfl) ?_ ?_
      · skip
        refine TD.run1 (pure_move rfl) rfl ?_
        first | refine TD.run1 (pure_load1 Ty.one26 rfl) rfl ?_ | refine TD.run1 (pure_load1_own Ty.one26 rfl (by repeat (first | exact List.Mem.head _ | apply List.Mem.tail)) (by repeat (first | exact DropR.zero _ | apply DropR.succ))) rfl ?_
        first | refine TD.run1 (pure_len Ty.sl26 rfl) rfl ?_ | refine TD.run1 (pure_len_row Ty.sl26 rfl (by repeat (first | exact List.Mem.head _ | apply List.Mem.tail))) rfl ?_ | refine TD.run1 (pure_len_nil Ty.sl26 rfl) rfl ?_
        refine TD.run1 (pure_eql rfl rfl) rfl ?_; refine TD.run1 (pure_move rfl) rfl ?_
        first | refine TD.splitP 48 rfl (fun hg48 => ?_) (fun hg48 => ?_) | refine TD.split 48 rfl (fun hg48 => ?_) (fun hg48 => ?_)
        · try dsimp only at hg48
          refine TD.passG rfl rfl rfl rfl ?_; refine TD.passG rfl rfl rfl rfl ?_; refine TD.passG rfl rfl rfl rfl ?_; refine TD.passG rfl rfl rfl rfl ?_; refine TD.passG rfl rfl rfl rfl ?_; refine TD.passG rfl rfl rfl rfl ?_; refine TD.passG rfl rfl rfl rfl ?_; refine TD.passG rfl rfl rfl rfl ?_; refine TD.passG rfl rfl rfl rfl ?_; refine TD.passG rfl rfl rfl rfl ?_; refine TD.passG rfl rfl rfl rfl ?_; refine TD.passG rfl rfl rfl rfl ?_; refine TD.passG rfl rfl rfl rfl ?_; refine TD.passG rfl rfl rfl rfl ?_; refine TD.passG rfl rfl rfl rfl ?_; refine TD.passG rfl rfl rfl rfl ?_; refine TD.passG rfl rfl rfl rfl ?_; refine TD.run1 (pure_pick_true rfl rfl) rfl ?_; refine TD.cutEnd (by repeat (first | exact Same.refl _ _ | refine Same.put rfl ?_)) rfl ?_
          first | (simp only [decide_eq_true_eq, Bool.false_eq_true, false_iff, true_iff, iff_true, iff_false, Bool.not_eq_true]; omega) | (simp_all; done) | (simp_all; omega) | grind
        · try dsimp only at hg48
          refine TD.runG rfl rfl (pure_move rfl) rfl ?_
          first | refine TD.runG rfl rfl (pure_load1 Ty.one26 rfl) rfl ?_ | refine TD.runG rfl rfl (pure_load1_own Ty.one26 rfl (by repeat (first | exact List.Mem.head _ | apply List.Mem.tail)) (by repeat (first | exact DropR.zero _ | apply DropR.succ))) rfl ?_
          first | refine TD.runG rfl rfl (pure_len Ty.sl26 rfl) rfl ?_ | refine TD.runG rfl rfl (pure_len_row Ty.sl26 rfl (by repeat (first | exact List.Mem.head _ | apply List.Mem.tail))) rfl ?_ | refine TD.runG rfl rfl (pure_len_nil Ty.sl26 rfl) rfl ?_
          refine TD.runG rfl rfl (pure_lss rfl rfl) rfl ?_; refine TD.runG rfl rfl (pure_move rfl) rfl ?_
          first | refine TD.splitP 53 rfl (fun hg53 => ?_) (fun hg53 => ?_) | refine TD.split 53 rfl (fun hg53 => ?_) (fun hg53 => ?_)
          · try dsimp only at hg53
            have hra := encP_get a i (by omega) (by omega)
            have hrb := encP_get b k (by omega) (by omega)
            first | refine TD.runG rfl rfl (pure_load1 Ty.one26 rfl) rfl ?_ | refine TD.runG rfl rfl (pure_load1_own Ty.one26 rfl (by repeat (first | exact List.Mem.head _ | apply List.Mem.tail)) (by repeat (first | exact DropR.zero _ | apply DropR.succ))) rfl ?_
            refine TD.runG rfl rfl (pure_move rfl) rfl ?_; refine TD.runG rfl rfl (pure_indexAddr Ty.sl26 rfl rfl (by omega) (by assumption) (List.cons_ne_nil _ _)) rfl ?_
            first | refine TD.runG rfl rfl (pure_fieldAddr Ty.f38_0 rfl (.zero _) (List.cons_ne_nil _ _)) rfl ?_ | refine TD.runG rfl rfl (pure_fieldAddr_own Ty.f38_0 rfl) rfl ?_
            first | refine TD.runG rfl rfl (pure_load1 Ty.one3 rfl) rfl ?_ | refine TD.runG rfl rfl (pure_load1_own Ty.one3 rfl (by repeat (first | exact List.Mem.head _ | apply List.Mem.tail)) (by repeat (first | exact DropR.zero _ | apply DropR.succ))) rfl ?_
            first | refine TD.runG rfl rfl (pure_load1 Ty.one26 rfl) rfl ?_ | refine TD.runG rfl rfl (pure_load1_own Ty.one26 rfl (by repeat (first | exact List.Mem.head _ | apply List.Mem.tail)) (by repeat (first | exact DropR.zero _ | apply DropR.succ))) rfl ?_
            refine TD.runG rfl rfl (pure_move rfl) rfl ?_; refine TD.runG rfl rfl (pure_indexAddr Ty.sl26 rfl rfl (by omega) (by assumption) (List.cons_ne_nil _ _)) rfl ?_
            first | refine TD.runG rfl rfl (pure_fieldAddr Ty.f38_0 rfl (.zero _) (List.cons_ne_nil _ _)) rfl ?_ | refine TD.runG rfl rfl (pure_fieldAddr_own Ty.f38_0 rfl) rfl ?_
            first | refine TD.runG rfl rfl (pure_load1 Ty.one3 rfl) rfl ?_ | refine TD.runG rfl rfl (pure_load1_own Ty.one3 rfl (by repeat (first | exact List.Mem.head _ | apply List.Mem.tail)) (by repeat (first | exact DropR.zero _ | apply DropR.succ))) rfl ?_
            refine TD.runG rfl rfl (pure_leq rfl rfl) rfl ?_; refine TD.runG rfl rfl (pure_pick_true rfl rfl) rfl ?_; refine TD.run1 (pure_pick_false rfl rfl) rfl ?_; refine TD.cutEnd (by repeat (first | exact Same.refl _ _ | refine Same.put rfl ?_)) rfl ?_
            first | (simp only [decide_eq_true_eq, Bool.false_eq_true, false_iff, true_iff, iff_true, iff_false, Bool.not_eq_true]; omega) | (simp_all; done) | (simp_all; omega) | grind
          · try dsimp only at hg53
            refine TD.passG rfl rfl rfl rfl ?_; refine TD.passG rfl rfl rfl rfl ?_; refine TD.passG rfl rfl rfl rfl ?_; refine TD.passG rfl rfl rfl rfl ?_; refine TD.passG rfl rfl rfl rfl ?_; refine TD.passG rfl rfl rfl rfl ?_; refine TD.passG rfl rfl rfl rfl ?_; refine TD.passG rfl rfl rfl rfl ?_; refine TD.passG rfl rfl rfl rfl ?_; refine TD.passG rfl rfl rfl rfl ?_; refine TD.passG rfl rfl rfl rfl ?_; refine TD.runG rfl rfl (pure_pick_false rfl rfl) rfl ?_; refine TD.run1 (pure_pick_false rfl rfl) rfl ?_; refine TD.cutEnd (by repeat (first | exact Same.refl _ _ | refine Same.put rfl ?_)) rfl ?_
            first | (simp only [decide_eq_true_eq, Bool.false_eq_true, false_iff, true_iff, iff_true, iff_false, Bool.not_eq_true]; omega) | (simp_all; done) | (simp_all; omega) | grind
      first | refine TC.condD rfl (fun hc66 => ?_) (fun hc66 => ?_) | refine TC.condN rfl (fun hc66 => ?_) (fun hc66 => ?_) | refine TC.cond rfl (fun hc66 => ?_) (fun hc66 => ?_)
      · try dsimp only at hc66
        have hrb := encP_get b k (by omega) (by omega)
        refine TC.region ?_
        first | refine TL.run1 (pure_load1 Ty.one26 rfl) rfl ?_ | refine TL.run1 (pure_load1_own Ty.one26 rfl (by repeat (first | exact List.Mem.head _ | apply List.Mem.tail)) (by repeat (first | exact DropR.zero _ | apply DropR.succ))) rfl ?_
        refine TL.run1 (pure_move rfl) rfl ?_; refine TL.run1 (pure_indexAddr Ty.sl26 rfl rfl (by omega) (by assumption) (List.cons_ne_nil _ _)) rfl ?_; refine TL.run1 (pure_assign rfl) rfl ?_; refine TL.nil' ?_; refine TC.seq ?_; refine TC.seq ?_; refine TC.region ?_; refine TL.run1 (pure_move rfl) rfl ?_
        first | refine TL.run1 (pure_neq_at Try.underlying100 rfl rfl) rfl ?_ | refine TL.run1 (pure_neq_nil Try.underlying100 rfl rfl) rfl ?_
        refine TL.nil' ?_
        first | refine TC.condD rfl (fun hc71 => ?_) (fun hc71 => ?_) | refine TC.condN rfl (fun hc71 => ?_) (fun hc71 => ?_) | refine TC.cond rfl (fun hc71 => ?_) (fun hc71 => ?_)
        · try dsimp only at hc71
          refine TC.region ?_; refine TL.run1 (pure_move rfl) rfl ?_; refine TL.run1 (pure_add rfl rfl (mkI64 (by omega) (by omega))) rfl ?_; refine TL.run1 (pure_assign rfl) rfl ?_; refine TL.nil' ?_; refine TC.seq ?_; refine TC.seq ?_; refine TC.region ?_; refine TL.run1 (pure_move rfl) rfl ?_
          first | refine TL.run1 (pure_neq_at Try.underlying100 rfl rfl) rfl ?_ | refine TL.run1 (pure_neq_nil Try.underlying100 rfl rfl) rfl ?_
          refine TL.nil' ?_
          first | refine TC.condD rfl (fun hc75 => ?_) (fun hc75 => ?_) | refine TC.condN rfl (fun hc75 => ?_) (fun hc75 => ?_) | refine TC.cond rfl (fun hc75 => ?_) (fun hc75 => ?_)
          · try dsimp only at hc75
            refine TC.region ?_; refine TL.run1 (pure_move rfl) rfl ?_; refine TL.run1 (pure_add rfl rfl (mkI64 (by omega) (by omega))) rfl ?_; refine TL.run1 (pure_assign rfl) rfl ?_; refine TL.nil' ?_; refine TC.seq ?_
            have hp := pairs_xy h0 h1 h2 h3 hc40 hc66 hc17
            rw [hp] at hd
            have hxn : (encPairs (pairsL a b))[n]? = some [.at_ [.v (.int .i64 (pAt a i).1), .v (.int .i64 (pAt a i).2)], .at_ [.v (.int .i64 (pAt b k).1), .v (.int .i64 (pAt b k).2)]] := by
              have h := congrArg (fun l => l[0]?) hd
              simp only [List.getElem?_drop, Nat.add_zero] at h
              rw [h]; rfl
            have hd2 : (encPairs (pairsL a b)).drop (n + 1) = encPairs (pairsL (a.drop (i + 1).toNat) (b.drop (k + 1).toNat)) := by
              have h := congrArg List.tail hd
              rw [List.tail_drop] at h
              rw [h]; rfl
            have hnl : n < (encPairs (pairsL a b)).length := (List.getElem?_eq_some_iff.1 hxn).1
            refine TC.region ?_; refine TL.run1 (pure_move rfl) rfl ?_; refine TL.run1 (pure_move rfl) rfl ?_; refine TL.run1 (pure_move rfl) rfl ?_
            refine TL.yield rfl (SplitR.all _) rfl (hy n _ Hc hxn hJ) (.cons rfl (.cons rfl .nil)) (by intro t ht; cases ht; exact (by decide : (81 : Nat) < 83)) (fun bb H1 hR => ?_)
            rw [List.append_nil]
            refine TL.run1 (pure_not rfl) rfl ?_; refine TL.nil' ?_
            first | refine TC.condD rfl (fun hc82 => ?_) (fun hc82 => ?_) | refine TC.condN rfl (fun hc82 => ?_) (fun hc82 => ?_) | refine TC.cond rfl (fun hc82 => ?_) (fun hc82 => ?_)
            · try dsimp only at hc82
              have hcy : bb = false := by simpa using hc82
              refine TC.ret ?_; refine block_ret ?_; refine loop_ret ?_; refine block_ret ?_
              exact ⟨.inl rfl, [], .nil, H1, List.Sublist.refl _, .inr ⟨n + 1, by (have h := hR; simp only [hcy, Bool.false_eq_true, if_false] at h; exact h)⟩⟩
            · try dsimp only at hc82
              have hcy : bb = true := by simpa using hc82
              refine TC.skip ?_; refine block_normal ?_
              refine loop_next (i + 1, k + 1, n + 1, H1) ⟨by repeat (first | exact Agree.nil | refine Agree.cons rfl ?_), by repeat (first | exact List.nil_sublist _ | exact List.Sublist.refl _ | apply List.Sublist.cons_cons | apply List.Sublist.cons)⟩ ⟨by omega, by omega, by omega, by omega, by omega, by (have h := hR; simp only [hcy, if_true] at h; exact h), hd2⟩ (by dsimp only; omega)
          · try dsimp only at hc75
            exact absurd hc75 (by simp)
        · try dsimp only at hc71
          exact absurd hc71 (by simp)
      · try dsimp only at hc66
        refine TC.skip' ?_; refine TC.seq ?_; refine TC.seq ?_; refine TC.region ?_; refine TL.run1 (pure_move rfl) rfl ?_
        first | refine TL.run1 (pure_neq_at Try.underlying100 rfl rfl) rfl ?_ | refine TL.run1 (pure_neq_nil Try.underlying100 rfl rfl) rfl ?_
        refine TL.nil' ?_
        first | refine TC.condD rfl (fun hc71 => ?_) (fun hc71 => ?_) | refine TC.condN rfl (fun hc71 => ?_) (fun hc71 => ?_) | refine TC.cond rfl (fun hc71 => ?_) (fun hc71 => ?_)
        · try dsimp only at hc71
          refine TC.region ?_; refine TL.run1 (pure_move rfl) rfl ?_; refine TL.run1 (pure_add rfl rfl (mkI64 (by omega) (by omega))) rfl ?_; refine TL.run1 (pure_assign rfl) rfl ?_; refine TL.nil' ?_; refine TC.seq ?_; refine TC.seq ?_; refine TC.region ?_; refine TL.run1 (pure_move rfl) rfl ?_
          first | refine TL.run1 (pure_neq_at Try.underlying100 rfl rfl) rfl ?_ | refine TL.run1 (pure_neq_nil Try.underlying100 rfl rfl) rfl ?_
          refine TL.nil' ?_
          first | refine TC.condD rfl (fun hc75 => ?_) (fun hc75 => ?_) | refine TC.condN rfl (fun hc75 => ?_) (fun hc75 => ?_) | refine TC.cond rfl (fun hc75 => ?_) (fun hc75 => ?_)
          · try dsimp only at hc75
            exact absurd hc75 (by simp)
          · try dsimp only at hc75
            refine TC.skip' ?_; refine TC.seq ?_
            have hp := pairs_x h0 h1 h2 h3 hc40 hc66 hc17
            rw [hp] at hd
            have hxn : (encPairs (pairsL a b))[n]? = some [.at_ [.v (.int .i64 (pAt a i).1), .v (.int .i64 (pAt a i).2)], .v (.pointer none)] := by
              have h := congrArg (fun l => l[0]?) hd
              simp only [List.getElem?_drop, Nat.add_zero] at h
              rw [h]; rfl
            have hd2 : (encPairs (pairsL a b)).drop (n + 1) = encPairs (pairsL (a.drop (i + 1).toNat) (b.drop k.toNat)) := by
              have h := congrArg List.tail hd
              rw [List.tail_drop] at h
              rw [h]; rfl
            have hnl : n < (encPairs (pairsL a b)).length := (List.getElem?_eq_some_iff.1 hxn).1
            refine TC.region ?_; refine TL.run1 (pure_move rfl) rfl ?_; refine TL.run1 (pure_move rfl) rfl ?_; refine TL.run1 (pure_move rfl) rfl ?_
            refine TL.yield rfl (SplitR.all _) rfl (hy n _ Hc hxn hJ) (.cons rfl (.cons rfl .nil)) (by intro t ht; cases ht; exact (by decide : (81 : Nat) < 83)) (fun bb H1 hR => ?_)
            rw [List.append_nil]
            refine TL.run1 (pure_not rfl) rfl ?_; refine TL.nil' ?_
            first | refine TC.condD rfl (fun hc82 => ?_) (fun hc82 => ?_) | refine TC.condN rfl (fun hc82 => ?_) (fun hc82 => ?_) | refine TC.cond rfl (fun hc82 => ?_) (fun hc82 => ?_)
            · try dsimp only at hc82
              have hcy : bb = false := by simpa using hc82
              refine TC.ret ?_; refine block_ret ?_; refine loop_ret ?_; refine block_ret ?_
              exact ⟨.inl rfl, [], .nil, H1, List.Sublist.refl _, .inr ⟨n + 1, by (have h := hR; simp only [hcy, Bool.false_eq_true, if_false] at h; exact h)⟩⟩
            · try dsimp only at hc82
              have hcy : bb = true := by simpa using hc82
              refine TC.skip ?_; refine block_normal ?_
              refine loop_next (i + 1, k, n + 1, H1) ⟨by repeat (first | exact Agree.nil | refine Agree.cons rfl ?_), by repeat (first | exact List.nil_sublist _ | exact List.Sublist.refl _ | apply List.Sublist.cons_cons | apply List.Sublist.cons)⟩ ⟨by omega, by omega, by omega, by omega, by omega, by (have h := hR; simp only [hcy, if_true] at h; exact h), hd2⟩ (by dsimp only; omega)
        · try dsimp only at hc71
          exact absurd hc71 (by simp)
    · try dsimp only at hc40
      refine TC.skip' ?_; refine TC.seq ?_; refine TC.drawCut [44, 45, 46, 47, 48, 49, 50, 51, 52, 53, 54, 55, 56, 57, 58, 59, 60, 61, 62, 63, 64, 65, 66] 66 (i = a.length ∨ k < b.length ∧ (pAt b k).1 ≤ (pAt a i).1) Ty.follows (by kernel_rfl) ?_ ?_
      · skip
        refine TD.run1 (pure_move rfl) rfl ?_
        first | refine TD.run1 (pure_load1 Ty.one26 rfl) rfl ?_ | refine TD.run1 (pure_load1_own Ty.one26 rfl (by repeat (first | exact List.Mem.head _ | apply List.Mem.tail)) (by repeat (first | exact DropR.zero _ | apply DropR.succ))) rfl ?_
        first | refine TD.run1 (pure_len Ty.sl26 rfl) rfl ?_ | refine TD.run1 (pure_len_row Ty.sl26 rfl (by repeat (first | exact List.Mem.head _ | apply List.Mem.tail))) rfl ?_ | refine TD.run1 (pure_len_nil Ty.sl26 rfl) rfl ?_
        refine TD.run1 (pure_eql rfl rfl) rfl ?_; refine TD.run1 (pure_move rfl) rfl ?_
        first | refine TD.splitP 48 rfl (fun hg48 => ?_) (fun hg48 => ?_) | refine TD.split 48 rfl (fun hg48 => ?_) (fun hg48 => ?_)
        · try dsimp only at hg48
          refine TD.passG rfl rfl rfl rfl ?_; refine TD.passG rfl rfl rfl rfl ?_; refine TD.passG rfl rfl rfl rfl ?_; refine TD.passG rfl rfl rfl rfl ?_; refine TD.passG rfl rfl rfl rfl ?_; refine TD.passG rfl rfl rfl rfl ?_; refine TD.passG rfl rfl rfl rfl ?_; refine TD.passG rfl rfl rfl rfl ?_; refine TD.passG rfl rfl rfl rfl ?_; refine TD.passG rfl rfl rfl rfl ?_; refine TD.passG rfl rfl rfl rfl ?_; refine TD.passG rfl rfl rfl rfl ?_; refine TD.passG rfl rfl rfl rfl ?_; refine TD.passG rfl rfl rfl rfl ?_; refine TD.passG rfl rfl rfl rfl ?_; refine TD.passG rfl rfl rfl rfl ?_; refine TD.passG rfl rfl rfl rfl ?_; refine TD.run1 (pure_pick_true rfl rfl) rfl ?_; refine TD.cutEnd (by repeat (first | exact Same.refl _ _ | refine Same.put rfl ?_)) rfl ?_
          first | (simp only [decide_eq_true_eq, Bool.false_eq_true, false_iff, true_iff, iff_true, iff_false, Bool.not_eq_true]; omega) | (simp_all; done) | (simp_all; omega) | grind
        · try dsimp only at hg48
          refine TD.runG rfl rfl (pure_move rfl) rfl ?_
          first | refine TD.runG rfl rfl (pure_load1 Ty.one26 rfl) rfl ?_ | refine TD.runG rfl rfl (pure_load1_own Ty.one26 rfl (by repeat (first | exact List.Mem.head _ | apply List.Mem.tail)) (by repeat (first | exact DropR.zero _ | apply DropR.succ))) rfl ?_
          first | refine TD.runG rfl rfl (pure_len Ty.sl26 rfl) rfl ?_ | refine TD.runG rfl rfl (pure_len_row Ty.sl26 rfl (by repeat (first | exact List.Mem.head _ | apply List.Mem.tail))) rfl ?_ | refine TD.runG rfl rfl (pure_len_nil Ty.sl26 rfl) rfl ?_
          refine TD.runG rfl rfl (pure_lss rfl rfl) rfl ?_; refine TD.runG rfl rfl (pure_move rfl) rfl ?_
          first | refine TD.splitP 53 rfl (fun hg53 => ?_) (fun hg53 => ?_) | refine TD.split 53 rfl (fun hg53 => ?_) (fun hg53 => ?_)
          · try dsimp only at hg53
            have hra := encP_get a i (by omega) (by omega)
            have hrb := encP_get b k (by omega) (by omega)
            first | refine TD.runG rfl rfl (pure_load1 Ty.one26 rfl) rfl ?_ | refine TD.runG rfl rfl (pure_load1_own Ty.one26 rfl (by repeat (first | exact List.Mem.head _ | apply List.Mem.tail)) (by repeat (first | exact DropR.zero _ | apply DropR.succ))) rfl ?_
            refine TD.runG rfl rfl (pure_move rfl) rfl ?_; refine TD.runG rfl rfl (pure_indexAddr Ty.sl26 rfl rfl (by omega) (by assumption) (List.cons_ne_nil _ _)) rfl ?_
            first | refine TD.runG rfl rfl (pure_fieldAddr Ty.f38_0 rfl (.zero _) (List.cons_ne_nil _ _)) rfl ?_ | refine TD.runG rfl rfl (pure_fieldAddr_own Ty.f38_0 rfl) rfl ?_
            first | refine TD.runG rfl rfl (pure_load1 Ty.one3 rfl) rfl ?_ | refine TD.runG rfl rfl (pure_load1_own Ty.one3 rfl (by repeat (first | exact List.Mem.head _ | apply List.Mem.tail)) (by repeat (first | exact DropR.zero _ | apply DropR.succ))) rfl ?_
            first | refine TD.runG rfl rfl (pure_load1 Ty.one26 rfl) rfl ?_ | refine TD.runG rfl rfl (pure_load1_own Ty.one26 rfl (by repeat (first | exact List.Mem.head _ | apply List.Mem.tail)) (by repeat (first | exact DropR.zero _ | apply DropR.succ))) rfl ?_
            refine TD.runG rfl rfl (pure_move rfl) rfl ?_; refine TD.runG rfl rfl (pure_indexAddr Ty.sl26 rfl rfl (by omega) (by assumption) (List.cons_ne_nil _ _)) rfl ?_
            first | refine TD.runG rfl rfl (pure_fieldAddr Ty.f38_0 rfl (.zero _) (List.cons_ne_nil _ _)) rfl ?_ | refine TD.runG rfl rfl (pure_fieldAddr_own Ty.f38_0 rfl) rfl ?_
            first | refine TD.runG rfl rfl (pure_load1 Ty.one3 rfl) rfl ?_ | refine TD.runG rfl rfl (pure_load1_own Ty.one3 rfl (by repeat (first | exact List.Mem.head _ | apply List.Mem.tail)) (by repeat (first | exact DropR.zero _ | apply DropR.succ))) rfl ?_
            refine TD.runG rfl rfl (pure_leq rfl rfl) rfl ?_; refine TD.runG rfl rfl (pure_pick_true rfl rfl) rfl ?_; refine TD.run1 (pure_pick_false rfl rfl) rfl ?_; refine TD.cutEnd (by repeat (first | exact Same.refl _ _ | refine Same.put rfl ?_)) rfl ?_
            first | (simp only [decide_eq_true_eq, Bool.false_eq_true, false_iff, true_iff, iff_true, iff_false, Bool.not_eq_true]; omega) | (simp_all; done) | (simp_all; omega) | grind
          · try dsimp only at hg53
            refine TD.passG rfl rfl rfl rfl ?_; refine TD.passG rfl rfl rfl rfl ?_; refine TD.passG rfl rfl rfl rfl ?_; refine TD.passG rfl rfl rfl rfl ?_; refine TD.passG rfl rfl rfl rfl ?_; refine TD.passG rfl rfl rfl rfl ?_; refine TD.passG rfl rfl rfl rfl ?_; refine TD.passG rfl rfl rfl rfl ?_; refine TD.passG rfl rfl rfl rfl ?_; refine TD.passG rfl rfl rfl rfl ?_; refine TD.passG rfl rfl rfl rfl ?_; refine TD.runG rfl rfl (pure_pick_false rfl rfl) rfl ?_; refine TD.run1 (pure_pick_false rfl rfl) rfl ?_; refine TD.cutEnd (by repeat (first | exact Same.refl _ _ | refine Same.put rfl ?_)) rfl ?_
            first | (simp only [decide_eq_true_eq, Bool.false_eq_true, false_iff, true_iff, iff_true, iff_false, Bool.not_eq_true]; omega) | (simp_all; done) | (simp_all; omega) | grind
      first | refine TC.condD rfl (fun hc66 => ?_) (fun hc66 => ?_) | refine TC.condN rfl (fun hc66 => ?_) (fun hc66 => ?_) | refine TC.cond rfl (fun hc66 => ?_) (fun hc66 => ?_)
      · try dsimp only at hc66
        have hrb := encP_get b k (by omega) (by omega)
        refine TC.region ?_
        first | refine TL.run1 (pure_load1 Ty.one26 rfl) rfl ?_ | refine TL.run1 (pure_load1_own Ty.one26 rfl (by repeat (first | exact List.Mem.head _ | apply List.Mem.tail)) (by repeat (first | exact DropR.zero _ | apply DropR.succ))) rfl ?_
        refine TL.run1 (pure_move rfl) rfl ?_; refine TL.run1 (pure_indexAddr Ty.sl26 rfl rfl (by omega) (by assumption) (List.cons_ne_nil _ _)) rfl ?_; refine TL.run1 (pure_assign rfl) rfl ?_; refine TL.nil' ?_; refine TC.seq ?_; refine TC.seq ?_; refine TC.region ?_; refine TL.run1 (pure_move rfl) rfl ?_
        first | refine TL.run1 (pure_neq_at Try.underlying100 rfl rfl) rfl ?_ | refine TL.run1 (pure_neq_nil Try.underlying100 rfl rfl) rfl ?_
        refine TL.nil' ?_
        first | refine TC.condD rfl (fun hc71 => ?_) (fun hc71 => ?_) | refine TC.condN rfl (fun hc71 => ?_) (fun hc71 => ?_) | refine TC.cond rfl (fun hc71 => ?_) (fun hc71 => ?_)
        · try dsimp only at hc71
          exact absurd hc71 (by simp)
        · try dsimp only at hc71
          refine TC.skip' ?_; refine TC.seq ?_; refine TC.seq ?_; refine TC.region ?_; refine TL.run1 (pure_move rfl) rfl ?_
          first | refine TL.run1 (pure_neq_at Try.underlying100 rfl rfl) rfl ?_ | refine TL.run1 (pure_neq_nil Try.underlying100 rfl rfl) rfl ?_
          refine TL.nil' ?_
          first | refine TC.condD rfl (fun hc75 => ?_) (fun hc75 => ?_) | refine TC.condN rfl (fun hc75 => ?_) (fun hc75 => ?_) | refine TC.cond rfl (fun hc75 => ?_) (fun hc75 => ?_)
          · try dsimp only at hc75
            refine TC.region ?_; refine TL.run1 (pure_move rfl) rfl ?_; refine TL.run1 (pure_add rfl rfl (mkI64 (by omega) (by omega))) rfl ?_; refine TL.run1 (pure_assign rfl) rfl ?_; refine TL.nil' ?_; refine TC.seq ?_
            have hp := pairs_y h0 h1 h2 h3 hc40 hc66 hc17
            rw [hp] at hd
            have hxn : (encPairs (pairsL a b))[n]? = some [.v (.pointer none), .at_ [.v (.int .i64 (pAt b k).1), .v (.int .i64 (pAt b k).2)]] := by
              have h := congrArg (fun l => l[0]?) hd
              simp only [List.getElem?_drop, Nat.add_zero] at h
              rw [h]; rfl
            have hd2 : (encPairs (pairsL a b)).drop (n + 1) = encPairs (pairsL (a.drop i.toNat) (b.drop (k + 1).toNat)) := by
              have h := congrArg List.tail hd
              rw [List.tail_drop] at h
              rw [h]; rfl
            have hnl : n < (encPairs (pairsL a b)).length := (List.getElem?_eq_some_iff.1 hxn).1
            refine TC.region ?_; refine TL.run1 (pure_move rfl) rfl ?_; refine TL.run1 (pure_move rfl) rfl ?_; refine TL.run1 (pure_move rfl) rfl ?_
            refine TL.yield rfl (SplitR.all _) rfl (hy n _ Hc hxn hJ) (.cons rfl (.cons rfl .nil)) (by intro t ht; cases ht; exact (by decide : (81 : Nat) < 83)) (fun bb H1 hR => ?_)
            rw [List.append_nil]
            refine TL.run1 (pure_not rfl) rfl ?_; refine TL.nil' ?_
            first | refine TC.condD rfl (fun hc82 => ?_) (fun hc82 => ?_) | refine TC.condN rfl (fun hc82 => ?_) (fun hc82 => ?_) | refine TC.cond rfl (fun hc82 => ?_) (fun hc82 => ?_)
            · try dsimp only at hc82
              have hcy : bb = false := by simpa using hc82
              refine TC.ret ?_; refine block_ret ?_; refine loop_ret ?_; refine block_ret ?_
              exact ⟨.inl rfl, [], .nil, H1, List.Sublist.refl _, .inr ⟨n + 1, by (have h := hR; simp only [hcy, Bool.false_eq_true, if_false] at h; exact h)⟩⟩
            · try dsimp only at hc82
              have hcy : bb = true := by simpa using hc82
              refine TC.skip ?_; refine block_normal ?_
              refine loop_next (i, k + 1, n + 1, H1) ⟨by repeat (first | exact Agree.nil | refine Agree.cons rfl ?_), by repeat (first | exact List.nil_sublist _ | exact List.Sublist.refl _ | apply List.Sublist.cons_cons | apply List.Sublist.cons)⟩ ⟨by omega, by omega, by omega, by omega, by omega, by (have h := hR; simp only [hcy, if_true] at h; exact h), hd2⟩ (by dsimp only; omega)
          · try dsimp only at hc75
            exact absurd hc75 (by simp)
      · try dsimp only at hc66
        exfalso; omega
  · try dsimp only at hc17
    refine TC.exit ?_; refine then_exit ?_; refine loop_exit ?_; refine block_here ?_
    have hend : n = (encPairs (pairsL a b)).length := by
      rw [drop_P_end a i (by omega), drop_P_end b k (by omega), show encPairs (pairsL [] []) = [] from by rw [pairsL]; rfl] at hd
      have := List.drop_eq_nil_iff.1 hd
      omega
    exact ⟨.inr rfl, [], .nil, Hc, List.Sublist.refl _, .inl (hend ▸ hJ)⟩
set_option maxRecDepth 100000 in
theorem pairs_spec (a b : List (Int × Int)) : Fun Try.prog 78 [.sl 2 (encP a), .sl 2 (encP b)] (.fn 89 [.at_ [.sl 2 (encP a)], .at_ [.sl 2 (encP b)]]) := by
  refine Fun.enterF (n := 6) (rs := [.tmp 4]) Try.func78 rfl Try.ntmps78 Try.results78 rfl (fun w F => ?_)
  refine TC.seq ?_; refine TC.region ?_
  refine TL.box rfl (.one rfl) rfl (fun g2 => ?_)
  refine TL.box rfl (.one rfl) rfl (fun g3 => ?_)
  refine TL.run1 (pure_assign rfl) rfl ?_; refine TL.nil' ?_; refine TC.seq ?_; refine TC.region ?_; refine TL.run1 (pure_makeFunc (.cons rfl (.cons rfl .nil))) rfl ?_; refine TL.run1 (pure_assign rfl) rfl ?_; refine TL.nil' ?_; refine TC.ret ?_
  exact retF1 (.inl rfl) rfl (.fnL (.cons (.boxS (by repeat (first | exact List.Mem.head _ | apply List.Mem.tail)) (List.cons_ne_nil _ _)) (.cons (.boxS (by repeat (first | exact List.Mem.head _ | apply List.Mem.tail)) (List.cons_ne_nil _ _)) .nil)))
set_option maxRecDepth 100000 in
theorem Merge_spec (a b : List (Int × Int)) (hla : a.length ≤ 1000000) (hlb : b.length ≤ 1000000) : Fun Try.prog 52 [.sl 2 (encP a), .sl 2 (encP b)] (.sl 2 (encP (mergeP a b))) := by
  refine Fun.enterF (n := 28) (rs := [.tmp 4]) Try.func52 rfl Try.ntmps52 Try.results52 rfl (fun w F => ?_)
  refine TC.seq ?_; refine TC.region ?_; refine TL.run1 (pure_assign rfl) rfl ?_; refine TL.nil' ?_; refine TC.seq ?_; refine TC.region ?_
  refine TL.alloc Ty.zero26 rfl (fun g5 => ?_)
  refine TL.nil' ?_; refine TC.seq ?_; refine TC.seq ?_; refine TC.nilrow 38 2 ?_; refine TC.region ?_; refine TL.run1 (pure_move rfl) rfl ?_; refine TL.run1 (pure_move rfl) rfl ?_; refine TL.run1 (pure_call (pairs_spec a b) (.cons rfl (.cons rfl .nil)) Try.call78) rfl ?_; refine TL.nil' ?_; refine TC.block ?_; refine TC.rangeFunc (caps := [.at_ [.sl 2 (encP a)], .at_ [.sl 2 (encP b)]]) (xs := encPairs (pairsL a b)) rfl rfl Try.call89 (pairs_seq a b (by omega) (by omega)) (fun k H => ∃ v, H = [.row v 38 2 (encP ((mergeP a b).take k)), .box g5 26 [.v v]]) (fun _ _ => False) ⟨_, rfl⟩ ?_ (by rfl) ?_ ?_ ?_ ?_
  · skip
    intro x hx
    simp only [encPairs, List.mem_map] at hx
    obtain ⟨p, _, rfl⟩ := hx
    rfl
  · skip
    rintro k x Hc w F S l hx ⟨v, rfl⟩
    obtain ⟨⟨ox, oy⟩, hp, rfl⟩ := encPairs_get hx
    have hsm := pairs_some a b _ (List.mem_of_getElem? hp)
    have hpl := pairsL_len a b
    have hkl := (List.getElem?_eq_some_iff.1 hp).1
    dsimp only at hsm
    have hkm := encP_len ((mergeP a b).take k)
    have htm : ((mergeP a b).take k).length ≤ k := by rw [List.length_take]; omega
    refine TC.seq ?_; refine TC.region ?_; refine TL.run1 (pure_assign rfl) rfl ?_; refine TL.nil' ?_; refine TC.region ?_; refine TL.run1 (pure_assign rfl) rfl ?_; refine TL.nil ?_
    refine ⟨rfl, fun w F S => ?_⟩
    refine TC.block ?_; refine TC.seq ?_; refine TC.region ?_; refine TL.run1 (pure_move rfl) rfl ?_; refine TL.run1 (pure_neq_encO Try.underlying100 rfl rfl) rfl ?_; refine TL.nil' ?_
    first | refine TC.condD rfl (fun hc14 => ?_) (fun hc14 => ?_) | refine TC.condN rfl (fun hc14 => ?_) (fun hc14 => ?_) | refine TC.cond rfl (fun hc14 => ?_) (fun hc14 => ?_)
    · try dsimp only at hc14
      obtain ⟨y, rfl⟩ := Option.isSome_iff_exists.1 hc14
      refine TC.drawTailN 5 Ty.follows (by kernel_rfl) (by kernel_rfl) ?_
      simp only [List.take_succ_cons, List.take_zero, List.drop_succ_cons, List.drop_zero]
      first | refine TD.run1 (pure_load1 Ty.one26 rfl) rfl ?_ | refine TD.run1 (pure_load1_own Ty.one26 rfl (by repeat (first | exact List.Mem.head _ | apply List.Mem.tail)) (by repeat (first | exact DropR.zero _ | apply DropR.succ))) rfl ?_
      refine TD.run1 (pure_move rfl) rfl ?_
      first | refine TD.run1 (pure_nilCheck rfl) rfl ?_ | refine TD.run1 (pure_nilCheck_own rfl) rfl ?_
      first | refine TD.run1 (pure_load Ty.agg38 rfl (.succ (.succ (.zero _)))) rfl ?_ | refine TD.run1 (pure_load_own Ty.agg38 rfl (by repeat (first | exact List.Mem.head _ | apply List.Mem.tail)) (by repeat (first | exact DropR.zero _ | apply DropR.succ)) (.succ (.succ (.zero _)))) rfl ?_
      refine TD.run1 (pure_buildSlice (xs := [.tmp 18]) Ty.app26 (by decide) rfl rfl (.cons rfl (.agg _) rfl .nil)) rfl ?_; refine TD.nil ?_
      show TL _ _ _ _ _ _
      refine TL.append Ty.app26 rfl rfl (by intro _; repeat (first | exact UpdR.here _ | apply UpdR.there)) (by simp only [List.length_append, List.length_cons, List.length_nil]; omega) (by simp only [List.length_append, List.length_cons, List.length_nil]; omega) rfl (fun v20 hv20 => ?_)
      refine TL.store rfl rfl (.one (by first | rfl | assumption)) Try.sizeOf26 rfl (by repeat (first | exact UpdR.here _ | apply UpdR.there)) (by repeat (first | exact PutR.nil _ | apply PutR.here | apply PutR.skip)) ?_; refine TL.nil ?_; refine block_normal ?_
      exact ⟨_, by rw [mergeP_take hp, encP_snoc']; rfl⟩
    · try dsimp only at hc14
      have hox : ox.isSome = true := by rcases hsm with h | h; exact h; rw [h] at hc14; cases hc14
      obtain rfl : oy = none := by cases oy; rfl; cases hc14
      obtain ⟨x, rfl⟩ := Option.isSome_iff_exists.1 hox
      refine TC.drawTailN 5 Ty.follows (by kernel_rfl) (by kernel_rfl) ?_
      simp only [List.take_succ_cons, List.take_zero, List.drop_succ_cons, List.drop_zero]
      first | refine TD.run1 (pure_load1 Ty.one26 rfl) rfl ?_ | refine TD.run1 (pure_load1_own Ty.one26 rfl (by repeat (first | exact List.Mem.head _ | apply List.Mem.tail)) (by repeat (first | exact DropR.zero _ | apply DropR.succ))) rfl ?_
      refine TD.run1 (pure_move rfl) rfl ?_
      first | refine TD.run1 (pure_nilCheck rfl) rfl ?_ | refine TD.run1 (pure_nilCheck_own rfl) rfl ?_
      first | refine TD.run1 (pure_load Ty.agg38 rfl (.succ (.succ (.zero _)))) rfl ?_ | refine TD.run1 (pure_load_own Ty.agg38 rfl (by repeat (first | exact List.Mem.head _ | apply List.Mem.tail)) (by repeat (first | exact DropR.zero _ | apply DropR.succ)) (.succ (.succ (.zero _)))) rfl ?_
      refine TD.run1 (pure_buildSlice (xs := [.tmp 24]) Ty.app26 (by decide) rfl rfl (.cons rfl (.agg _) rfl .nil)) rfl ?_; refine TD.nil ?_
      show TL _ _ _ _ _ _
      refine TL.append Ty.app26 rfl rfl (by intro _; repeat (first | exact UpdR.here _ | apply UpdR.there)) (by simp only [List.length_append, List.length_cons, List.length_nil]; omega) (by simp only [List.length_append, List.length_cons, List.length_nil]; omega) rfl (fun v26 hv26 => ?_)
      refine TL.store rfl rfl (.one (by first | rfl | assumption)) Try.sizeOf26 rfl (by repeat (first | exact UpdR.here _ | apply UpdR.there)) (by repeat (first | exact PutR.nil _ | apply PutR.here | apply PutR.skip)) ?_; refine TL.nil ?_; refine block_normal ?_
      exact ⟨_, by rw [mergeP_take hp, encP_snoc']; rfl⟩
  · skip
    rintro Hc ⟨v, rfl⟩
    refine block_normal ?_; refine then_normal ?_; refine TC.seq ?_; refine TC.region ?_
    first | refine TL.run1 (pure_load1 Ty.one26 rfl) rfl ?_ | refine TL.run1 (pure_load1_own Ty.one26 rfl (by repeat (first | exact List.Mem.head _ | apply List.Mem.tail)) (by repeat (first | exact DropR.zero _ | apply DropR.succ))) rfl ?_
    refine TL.run1 (pure_assign rfl) rfl ?_; refine TL.nil' ?_; refine TC.ret ?_
    exact retF_row rfl (by repeat (first | exact List.Mem.head _ | apply List.Mem.tail)) (by decide) (encP_each _) (by rw [List.take_of_length_le (by simp [encPairs, mergeP])])
  · skip
    first | exact fun _ h => h.elim | exact fun _ _ h => h.elim
  · skip
    first | exact fun _ h => h.elim | exact fun _ _ h => h.elim
end Go.Ob
