import Derived.Test.YtajklmaaokgecaaK
import Derived.Test.YtajklmaaokgecaaObT
set_option linter.unusedVariables false
set_option linter.unusedSimpArgs false
namespace Go.Ob
open Go.Proofs

theorem fits_in {e key : Int} (h : fitsP e key = true) : inI (keysK tableK) key = true := (Bool.and_eq_true _ _ ▸ h).1
set_option maxRecDepth 100000 in
theorem Check_spec (e : Int) (ps : List (Int × Int)) (hl : ps.length ≤ 1000000) : Fun Try.prog 18 [.v (.int .i64 e), .sl 2 (encP ps)] (.v (.int .i64 (checkP e ps))) := by
  refine Fun.enter (n := 64) (rs := [.tmp 4]) Try.func18 rfl Try.ntmps18 Try.results18 rfl (fun w F => ?_)
  refine TC.seq ?_
  refine TC.region ?_
  refine TL.run1 (pure_assign rfl) rfl ?_
  refine TL.nil' ?_
  refine TC.seq ?_
  refine TC.regionCut [8, 9, 10, 11, 12, 13] 13 (e < 1 ∨ e > 10) ?_ ?_
  · skip
    refine TL.run1 (pure_move rfl) rfl ?_
    refine TL.run1 (pure_lss rfl rfl) rfl ?_
    refine TL.run1 (pure_move rfl) rfl ?_
    first | refine TL.splitP 10 rfl (fun hg10 => ?_) (fun hg10 => ?_) | refine TL.split 10 rfl (fun hg10 => ?_) (fun hg10 => ?_)
    · try dsimp only at hg10
      refine TL.passG rfl rfl rfl rfl ?_
      refine TL.passG rfl rfl rfl rfl ?_
      refine TL.run1 (pure_pick_true rfl rfl) rfl ?_
      refine TL.cutEnd (by repeat (first | exact Same.refl _ _ | refine Same.put rfl ?_)) rfl ?_
      first | (simp only [decide_eq_true_eq, Bool.false_eq_true, false_iff, true_iff, iff_true, iff_false, Bool.not_eq_true]; omega) | (simp_all; done) | (simp_all; omega) | grind
    · try dsimp only at hg10
      refine TL.runG rfl rfl (pure_move rfl) rfl ?_
      refine TL.runG rfl rfl (pure_gtr rfl rfl) rfl ?_
      refine TL.run1 (pure_pick_false rfl rfl) rfl ?_
      refine TL.cutEnd (by repeat (first | exact Same.refl _ _ | refine Same.put rfl ?_)) rfl ?_
      first | (simp only [decide_eq_true_eq, Bool.false_eq_true, false_iff, true_iff, iff_true, iff_false, Bool.not_eq_true]; omega) | (simp_all; done) | (simp_all; omega) | grind
  first | refine TC.condD rfl (fun hc13 => ?_) (fun hc13 => ?_) | refine TC.condN rfl (fun hc13 => ?_) (fun hc13 => ?_) | refine TC.cond rfl (fun hc13 => ?_) (fun hc13 => ?_)
  · try dsimp only at hc13
    refine TC.seq ?_
    refine TC.region ?_
    refine TL.run1 (pure_assign rfl) rfl ?_
    refine TL.nil' ?_
    refine TC.ret ?_
    refine then_ret ?_
    exact ret_int rfl (by unfold checkP; rw [if_pos hc13])
  · try dsimp only at hc13
    refine TC.skip' ?_
    refine TC.seq ?_
    refine TC.seq ?_
    refine TC.region ?_
    refine TL.run1 (pure_move rfl) rfl ?_
    first | refine TL.run1 (pure_len Ty.sl31 rfl) rfl ?_ | refine TL.run1 (pure_len_row Ty.sl31 rfl (by repeat (first | exact List.Mem.head _ | apply List.Mem.tail))) rfl ?_ | refine TL.run1 (pure_len_nil Ty.sl31 rfl) rfl ?_
    refine TL.run1 (pure_move rfl) rfl ?_
    refine TL.nil' ?_
    refine TC.block ?_
    refine TC.loopX (X := Int) (fun i => [(0, .v (.int .i64 e)), (1, .sl 2 (encP ps)), (14, .sl 2 (encP ps)), (15, .v (.int .i64 ps.length)), (16, .v (.int .i64 i))]) (fun i => []) (fun i => (0 ≤ i) ∧ (i ≤ ps.length) ∧ (∀ j : Int, 0 ≤ j → j < i → errAt e ps j = 0)) (fun i => (ps.length - i).toNat) (0) ⟨by rw [encP_len]; repeat (first | exact Agree.nil | refine Agree.cons rfl ?_), by skip; repeat (first | exact List.nil_sublist _ | exact List.Sublist.refl _ | apply List.Sublist.cons_cons | apply List.Sublist.cons)⟩ ?_ ?_
    · skip
      exact ⟨by omega, by omega, fun j _ _ => by omega⟩
    intro i
    rintro ⟨h0, h1, h2⟩
    show TC _ _ _ (Env.of [(0, .v (.int .i64 e)), (1, .sl 2 (encP ps)), (14, .sl 2 (encP ps)), (15, .v (.int .i64 ps.length)), (16, .v (.int .i64 i))]) []
    refine TC.seq ?_
    refine TC.region ?_
    refine TL.run1 (pure_lss rfl rfl) rfl ?_
    refine TL.nil' ?_
    refine TC.seq ?_
    first | refine TC.condD rfl (fun hc17 => ?_) (fun hc17 => ?_) | refine TC.condN rfl (fun hc17 => ?_) (fun hc17 => ?_) | refine TC.cond rfl (fun hc17 => ?_) (fun hc17 => ?_)
    · try dsimp only at hc17
      refine TC.skip' ?_
      refine TC.seq ?_
      refine TC.block ?_
      refine TC.seq ?_
      have hk := encP_len ps
      have hrow := encP_get ps i (by omega) (by omega)
      refine TC.region ?_
      refine TL.run1 (pure_move rfl) rfl ?_
      refine TL.run1 (pure_indexAddr Ty.sl31 rfl rfl (by omega) (by assumption) (List.cons_ne_nil _ _)) rfl ?_
      first | refine TL.run1 (pure_load Ty.agg59 rfl (.succ (.succ (.zero _)))) rfl ?_ | refine TL.run1 (pure_load_own Ty.agg59 rfl (by repeat (first | exact List.Mem.head _ | apply List.Mem.tail)) (by repeat (first | exact DropR.zero _ | apply DropR.succ)) (.succ (.succ (.zero _)))) rfl ?_
      refine TL.alloc Ty.zero59 rfl (fun g6 => ?_)
      refine TL.run1 (pure_assign rfl) rfl ?_
      refine TL.store rfl rfl (.agg _) Try.sizeOf59 rfl (by repeat (first | exact UpdR.here _ | apply UpdR.there)) (by repeat (first | exact PutR.nil _ | apply PutR.here | apply PutR.skip)) ?_
      refine TL.nil' ?_
      refine TC.seq ?_
      refine TC.block ?_
      refine TC.seq ?_
      refine TC.region ?_
      refine TL.run1 (pure_move rfl) rfl ?_
      first | refine TL.run1 (pure_fieldAddr Ty.f59_0 rfl (.zero _) (List.cons_ne_nil _ _)) rfl ?_ | refine TL.run1 (pure_fieldAddr_own Ty.f59_0 rfl) rfl ?_
      first | refine TL.run1 (pure_load1 Ty.one3 rfl) rfl ?_ | refine TL.run1 (pure_load1_own Ty.one3 rfl (by repeat (first | exact List.Mem.head _ | apply List.Mem.tail)) (by repeat (first | exact DropR.zero _ | apply DropR.succ))) rfl ?_
      refine TL.run1 (pure_call (Fits_spec _ _) (.cons rfl (.cons rfl .nil)) Try.call15) rfl ?_
      refine TL.run1 (pure_not rfl) rfl ?_
      refine TL.run1 (pure_assign rfl) rfl ?_
      refine TL.nil' ?_
      first | refine TC.condD rfl (fun hc21 => ?_) (fun hc21 => ?_) | refine TC.condN rfl (fun hc21 => ?_) (fun hc21 => ?_) | refine TC.cond rfl (fun hc21 => ?_) (fun hc21 => ?_)
      · try dsimp only at hc21
        refine TC.seq ?_
        refine TC.region ?_
        refine TL.run1 (pure_assign rfl) rfl ?_
        refine TL.nil' ?_
        refine TC.ret ?_
        refine block_ret ?_
        refine then_ret ?_
        refine block_ret ?_
        refine then_ret ?_
        refine loop_ret ?_
        refine block_ret ?_
        refine then_ret ?_
        have hE : errAt e ps i = 4 := by unfold errAt; rw [if_pos (by simpa using hc21)]
        exact ret_int rfl (by unfold checkP; rw [if_neg hc13, firstErr_at _ i h0 h2 (by rw [hE]; decide) _ (by omega), hE])
      · try dsimp only at hc21
        have hf : fitsP e (pAt ps i).1 = true := by simpa using hc21
        refine TC.drawCut [28, 29, 30, 31, 32, 33, 34, 35, 36, 37, 38, 39, 40, 27] 27 (i > 0 ∧ (pAt ps i).1 = (pAt ps (i - 1)).1) Ty.follows (by kernel_rfl) ?_ ?_
        · skip
          refine TD.run1 (pure_move rfl) rfl ?_
          refine TD.run1 (pure_gtr rfl rfl) rfl ?_
          refine TD.run1 (pure_move rfl) rfl ?_
          first | refine TD.splitP 30 rfl (fun hg30 => ?_) (fun hg30 => ?_) | refine TD.split 30 rfl (fun hg30 => ?_) (fun hg30 => ?_)
          · try dsimp only at hg30
            have hrow2 := encP_get ps (i - 1) (by omega) (by omega)
            first | refine TD.runG rfl rfl (pure_fieldAddr Ty.f59_0 rfl (.zero _) (List.cons_ne_nil _ _)) rfl ?_ | refine TD.runG rfl rfl (pure_fieldAddr_own Ty.f59_0 rfl) rfl ?_
            first | refine TD.runG rfl rfl (pure_load1 Ty.one3 rfl) rfl ?_ | refine TD.runG rfl rfl (pure_load1_own Ty.one3 rfl (by repeat (first | exact List.Mem.head _ | apply List.Mem.tail)) (by repeat (first | exact DropR.zero _ | apply DropR.succ))) rfl ?_
            refine TD.runG rfl rfl (pure_move rfl) rfl ?_
            refine TD.runG rfl rfl (pure_move rfl) rfl ?_
            refine TD.runG rfl rfl (pure_sub rfl rfl (mkI64 (by omega) (by omega))) rfl ?_
            refine TD.runG rfl rfl (pure_indexAddr Ty.sl31 rfl rfl (by omega) (by assumption) (List.cons_ne_nil _ _)) rfl ?_
            first | refine TD.runG rfl rfl (pure_fieldAddr Ty.f59_0 rfl (.zero _) (List.cons_ne_nil _ _)) rfl ?_ | refine TD.runG rfl rfl (pure_fieldAddr_own Ty.f59_0 rfl) rfl ?_
            first | refine TD.runG rfl rfl (pure_load1 Ty.one3 rfl) rfl ?_ | refine TD.runG rfl rfl (pure_load1_own Ty.one3 rfl (by repeat (first | exact List.Mem.head _ | apply List.Mem.tail)) (by repeat (first | exact DropR.zero _ | apply DropR.succ))) rfl ?_
            refine TD.runG rfl rfl (pure_eql rfl rfl) rfl ?_
            refine TD.run1 (pure_pick_true rfl rfl) rfl ?_
            refine TD.run1 (pure_assign rfl) rfl ?_
            refine TD.cutEnd (by repeat (first | exact Same.refl _ _ | refine Same.put rfl ?_)) rfl ?_
            first | (simp only [decide_eq_true_eq, Bool.false_eq_true, false_iff, true_iff, iff_true, iff_false, Bool.not_eq_true]; omega) | (simp_all; done) | (simp_all; omega) | grind
          · try dsimp only at hg30
            refine TD.passG rfl rfl rfl rfl ?_
            refine TD.passG rfl rfl rfl rfl ?_
            refine TD.passG rfl rfl rfl rfl ?_
            refine TD.passG rfl rfl rfl rfl ?_
            refine TD.passG rfl rfl rfl rfl ?_
            refine TD.passG rfl rfl rfl rfl ?_
            refine TD.passG rfl rfl rfl rfl ?_
            refine TD.passG rfl rfl rfl rfl ?_
            refine TD.passG rfl rfl rfl rfl ?_
            refine TD.run1 (pure_pick_false rfl rfl) rfl ?_
            refine TD.run1 (pure_assign rfl) rfl ?_
            refine TD.cutEnd (by repeat (first | exact Same.refl _ _ | refine Same.put rfl ?_)) rfl ?_
            first | (simp only [decide_eq_true_eq, Bool.false_eq_true, false_iff, true_iff, iff_true, iff_false, Bool.not_eq_true]; omega) | (simp_all; done) | (simp_all; omega) | grind
        first | refine TC.condD rfl (fun hc27 => ?_) (fun hc27 => ?_) | refine TC.condN rfl (fun hc27 => ?_) (fun hc27 => ?_) | refine TC.cond rfl (fun hc27 => ?_) (fun hc27 => ?_)
        · try dsimp only at hc27
          refine TC.seq ?_
          refine TC.region ?_
          refine TL.run1 (pure_assign rfl) rfl ?_
          refine TL.nil' ?_
          refine TC.ret ?_
          refine block_ret ?_
          refine then_ret ?_
          refine block_ret ?_
          refine then_ret ?_
          refine loop_ret ?_
          refine block_ret ?_
          refine then_ret ?_
          have hE : errAt e ps i = 7 := by unfold errAt; rw [if_neg (by rw [hf]; simp), if_pos hc27]
          exact ret_int rfl (by unfold checkP; rw [if_neg hc13, firstErr_at _ i h0 h2 (by rw [hE]; decide) _ (by omega), hE])
        · try dsimp only at hc27
          refine TC.drawCut [42, 43, 44, 45, 46, 47, 48, 49, 50, 51, 52, 53, 54, 41] 41 (i > 0 ∧ (pAt ps i).1 < (pAt ps (i - 1)).1) Ty.follows (by kernel_rfl) ?_ ?_
          · skip
            refine TD.run1 (pure_move rfl) rfl ?_
            refine TD.run1 (pure_gtr rfl rfl) rfl ?_
            refine TD.run1 (pure_move rfl) rfl ?_
            first | refine TD.splitP 44 rfl (fun hg44 => ?_) (fun hg44 => ?_) | refine TD.split 44 rfl (fun hg44 => ?_) (fun hg44 => ?_)
            · try dsimp only at hg44
              have hrow2 := encP_get ps (i - 1) (by omega) (by omega)
              first | refine TD.runG rfl rfl (pure_fieldAddr Ty.f59_0 rfl (.zero _) (List.cons_ne_nil _ _)) rfl ?_ | refine TD.runG rfl rfl (pure_fieldAddr_own Ty.f59_0 rfl) rfl ?_
              first | refine TD.runG rfl rfl (pure_load1 Ty.one3 rfl) rfl ?_ | refine TD.runG rfl rfl (pure_load1_own Ty.one3 rfl (by repeat (first | exact List.Mem.head _ | apply List.Mem.tail)) (by repeat (first | exact DropR.zero _ | apply DropR.succ))) rfl ?_
              refine TD.runG rfl rfl (pure_move rfl) rfl ?_
              refine TD.runG rfl rfl (pure_move rfl) rfl ?_
              refine TD.runG rfl rfl (pure_sub rfl rfl (mkI64 (by omega) (by omega))) rfl ?_
              refine TD.runG rfl rfl (pure_indexAddr Ty.sl31 rfl rfl (by omega) (by assumption) (List.cons_ne_nil _ _)) rfl ?_
              first | refine TD.runG rfl rfl (pure_fieldAddr Ty.f59_0 rfl (.zero _) (List.cons_ne_nil _ _)) rfl ?_ | refine TD.runG rfl rfl (pure_fieldAddr_own Ty.f59_0 rfl) rfl ?_
              first | refine TD.runG rfl rfl (pure_load1 Ty.one3 rfl) rfl ?_ | refine TD.runG rfl rfl (pure_load1_own Ty.one3 rfl (by repeat (first | exact List.Mem.head _ | apply List.Mem.tail)) (by repeat (first | exact DropR.zero _ | apply DropR.succ))) rfl ?_
              refine TD.runG rfl rfl (pure_lss rfl rfl) rfl ?_
              refine TD.run1 (pure_pick_true rfl rfl) rfl ?_
              refine TD.run1 (pure_assign rfl) rfl ?_
              refine TD.cutEnd (by repeat (first | exact Same.refl _ _ | refine Same.put rfl ?_)) rfl ?_
              first | (simp only [decide_eq_true_eq, Bool.false_eq_true, false_iff, true_iff, iff_true, iff_false, Bool.not_eq_true]; omega) | (simp_all; done) | (simp_all; omega) | grind
            · try dsimp only at hg44
              refine TD.passG rfl rfl rfl rfl ?_
              refine TD.passG rfl rfl rfl rfl ?_
              refine TD.passG rfl rfl rfl rfl ?_
              refine TD.passG rfl rfl rfl rfl ?_
              refine TD.passG rfl rfl rfl rfl ?_
              refine TD.passG rfl rfl rfl rfl ?_
              refine TD.passG rfl rfl rfl rfl ?_
              refine TD.passG rfl rfl rfl rfl ?_
              refine TD.passG rfl rfl rfl rfl ?_
              refine TD.run1 (pure_pick_false rfl rfl) rfl ?_
              refine TD.run1 (pure_assign rfl) rfl ?_
              refine TD.cutEnd (by repeat (first | exact Same.refl _ _ | refine Same.put rfl ?_)) rfl ?_
              first | (simp only [decide_eq_true_eq, Bool.false_eq_true, false_iff, true_iff, iff_true, iff_false, Bool.not_eq_true]; omega) | (simp_all; done) | (simp_all; omega) | grind
          first | refine TC.condD rfl (fun hc41 => ?_) (fun hc41 => ?_) | refine TC.condN rfl (fun hc41 => ?_) (fun hc41 => ?_) | refine TC.cond rfl (fun hc41 => ?_) (fun hc41 => ?_)
          · try dsimp only at hc41
            refine TC.seq ?_
            refine TC.region ?_
            refine TL.run1 (pure_assign rfl) rfl ?_
            refine TL.nil' ?_
            refine TC.ret ?_
            refine block_ret ?_
            refine then_ret ?_
            refine block_ret ?_
            refine then_ret ?_
            refine loop_ret ?_
            refine block_ret ?_
            refine then_ret ?_
            have hE : errAt e ps i = 6 := by unfold errAt; rw [if_neg (by rw [hf]; simp), if_neg hc27, if_pos hc41]
            exact ret_int rfl (by unfold checkP; rw [if_neg hc13, firstErr_at _ i h0 h2 (by rw [hE]; decide) _ (by omega), hE])
          · try dsimp only at hc41
            refine TC.skip ?_
            refine block_normal ?_
            refine then_normal ?_
            refine TC.seq ?_
            refine TC.region ?_
            first | refine TL.run1 (pure_fieldAddr Ty.f59_0 rfl (.zero _) (List.cons_ne_nil _ _)) rfl ?_ | refine TL.run1 (pure_fieldAddr_own Ty.f59_0 rfl) rfl ?_
            first | refine TL.run1 (pure_load1 Ty.one3 rfl) rfl ?_ | refine TL.run1 (pure_load1_own Ty.one3 rfl (by repeat (first | exact List.Mem.head _ | apply List.Mem.tail)) (by repeat (first | exact DropR.zero _ | apply DropR.succ))) rfl ?_
            first | refine TL.run1 (pure_fieldAddr Ty.f59_1 rfl (.succ (.zero _)) (List.cons_ne_nil _ _)) rfl ?_ | refine TL.run1 (pure_fieldAddr_own Ty.f59_1 rfl) rfl ?_
            first | refine TL.run1 (pure_load1 Ty.one3 rfl) rfl ?_ | refine TL.run1 (pure_load1_own Ty.one3 rfl (by repeat (first | exact List.Mem.head _ | apply List.Mem.tail)) (by repeat (first | exact DropR.zero _ | apply DropR.succ))) rfl ?_
            refine TL.run1 (pure_call (CheckValue_spec _ _) (.cons rfl (.cons rfl .nil)) Try.call17) rfl ?_
            refine TL.run1 (pure_assign rfl) rfl ?_
            refine TL.nil' ?_
            refine TC.seq ?_
            refine TC.region ?_
            refine TL.run1 (pure_move rfl) rfl ?_
            refine TL.run1 (pure_neq rfl rfl) rfl ?_
            refine TL.nil' ?_
            first | refine TC.condD rfl (fun hc61 => ?_) (fun hc61 => ?_) | refine TC.condN rfl (fun hc61 => ?_) (fun hc61 => ?_) | refine TC.cond rfl (fun hc61 => ?_) (fun hc61 => ?_)
            · try dsimp only at hc61
              refine TC.seq ?_
              refine TC.region ?_
              refine TL.run1 (pure_move rfl) rfl ?_
              refine TL.run1 (pure_assign rfl) rfl ?_
              refine TL.nil' ?_
              refine TC.ret ?_
              refine block_ret ?_
              refine then_ret ?_
              refine loop_ret ?_
              refine block_ret ?_
              refine then_ret ?_
              have hE : errAt e ps i = checkV (pAt ps i).1 (pAt ps i).2 := by unfold errAt; rw [if_neg (by rw [hf]; simp), if_neg hc27, if_neg hc41]
              exact ret_int rfl (by unfold checkP; rw [if_neg hc13, firstErr_at _ i h0 h2 (by rw [hE]; exact hc61) _ (by omega), hE])
            · try dsimp only at hc61
              refine TC.skip ?_
              refine block_normal ?_
              refine then_normal ?_
              refine TC.region ?_
              refine TL.run1 (pure_add rfl rfl (mkI64 (by omega) (by omega))) rfl ?_
              refine TL.run1 (pure_move rfl) rfl ?_
              refine TL.nil ?_
              refine loop_next (i + 1) ⟨by repeat (first | exact Agree.nil | refine Agree.cons rfl ?_), by repeat (first | exact List.nil_sublist _ | exact List.Sublist.refl _ | apply List.Sublist.cons_cons | apply List.Sublist.cons)⟩ ⟨by omega, by omega, fun j a b => ?_⟩ (by omega)
              rcases Int.lt_or_eq_of_le (show j ≤ i by omega) with h | h
              · exact h2 j a h
              · rw [h]; unfold errAt; rw [if_neg (by rw [hf]; simp), if_neg hc27, if_neg hc41]; exact Decidable.not_not.1 hc61
    · try dsimp only at hc17
      refine TC.exit ?_
      refine then_exit ?_
      refine loop_exit ?_
      refine block_here ?_
      refine then_normal ?_
      refine TC.seq ?_
      refine TC.region ?_
      refine TL.run1 (pure_assign rfl) rfl ?_
      refine TL.nil' ?_
      refine TC.ret ?_
      exact ret_int rfl (by unfold checkP; rw [if_neg hc13, firstErr_zero _ _ (fun j a b => h2 j a (by omega))])
set_option maxRecDepth 100000 in
theorem RCheck_spec (e : Int) (ps : List (Int × Int)) (hl : ps.length ≤ 1000000) : Fun Try.prog 19 [.v (.int .i64 e), .sl 2 (encP ps)] (.v (.int .i64 (checkP e ps))) := by
  refine Fun.enter (n := 91) (rs := [.tmp 4]) Try.func19 rfl Try.ntmps19 Try.results19 rfl (fun w F => ?_)
  refine TC.seq ?_
  refine TC.region ?_
  refine TL.run1 (pure_assign rfl) rfl ?_
  refine TL.nil' ?_
  refine TC.seq ?_
  refine TC.regionCut [8, 9, 10, 11, 12, 13] 13 (e < 1 ∨ e > 10) ?_ ?_
  · skip
    refine TL.run1 (pure_move rfl) rfl ?_
    refine TL.run1 (pure_lss rfl rfl) rfl ?_
    refine TL.run1 (pure_move rfl) rfl ?_
    first | refine TL.splitP 10 rfl (fun hg10 => ?_) (fun hg10 => ?_) | refine TL.split 10 rfl (fun hg10 => ?_) (fun hg10 => ?_)
    · try dsimp only at hg10
      refine TL.passG rfl rfl rfl rfl ?_
      refine TL.passG rfl rfl rfl rfl ?_
      refine TL.run1 (pure_pick_true rfl rfl) rfl ?_
      refine TL.cutEnd (by repeat (first | exact Same.refl _ _ | refine Same.put rfl ?_)) rfl ?_
      first | (simp only [decide_eq_true_eq, Bool.false_eq_true, false_iff, true_iff, iff_true, iff_false, Bool.not_eq_true]; omega) | (simp_all; done) | (simp_all; omega) | grind
    · try dsimp only at hg10
      refine TL.runG rfl rfl (pure_move rfl) rfl ?_
      refine TL.runG rfl rfl (pure_gtr rfl rfl) rfl ?_
      refine TL.run1 (pure_pick_false rfl rfl) rfl ?_
      refine TL.cutEnd (by repeat (first | exact Same.refl _ _ | refine Same.put rfl ?_)) rfl ?_
      first | (simp only [decide_eq_true_eq, Bool.false_eq_true, false_iff, true_iff, iff_true, iff_false, Bool.not_eq_true]; omega) | (simp_all; done) | (simp_all; omega) | grind
  first | refine TC.condD rfl (fun hc13 => ?_) (fun hc13 => ?_) | refine TC.condN rfl (fun hc13 => ?_) (fun hc13 => ?_) | refine TC.cond rfl (fun hc13 => ?_) (fun hc13 => ?_)
  · try dsimp only at hc13
    refine TC.seq ?_
    refine TC.region ?_
    refine TL.run1 (pure_assign rfl) rfl ?_
    refine TL.nil' ?_
    refine TC.ret ?_
    refine then_ret ?_
    exact ret_int rfl (by unfold checkP; rw [if_pos hc13])
  · try dsimp only at hc13
    refine TC.skip' ?_
    refine TC.seq ?_
    refine TC.seq ?_
    refine TC.region ?_
    refine TL.run1 (pure_assign rfl) rfl ?_
    refine TL.nil' ?_
    refine TC.block ?_
    refine TC.loopX (X := Int) (fun i => [(0, .v (.int .i64 e)), (1, .sl 2 (encP ps)), (5, .v (.int .i64 i))]) (fun i => []) (fun i => (0 ≤ i) ∧ (i ≤ ps.length) ∧ (∀ j : Int, 0 ≤ j → j < i → errAt e ps j = 0)) (fun i => (ps.length - i).toNat) (0) ⟨by skip; repeat (first | exact Agree.nil | refine Agree.cons rfl ?_), by skip; repeat (first | exact List.nil_sublist _ | exact List.Sublist.refl _ | apply List.Sublist.cons_cons | apply List.Sublist.cons)⟩ ?_ ?_
    · skip
      exact ⟨by omega, by omega, fun j _ _ => by omega⟩
    intro i
    rintro ⟨h0, h1, h2⟩
    show TC _ _ _ (Env.of [(0, .v (.int .i64 e)), (1, .sl 2 (encP ps)), (5, .v (.int .i64 i))]) []
    have hk := encP_len ps
    refine TC.seq ?_
    refine TC.seq ?_
    refine TC.region ?_
    refine TL.run1 (pure_move rfl) rfl ?_
    refine TL.run1 (pure_move rfl) rfl ?_
    first | refine TL.run1 (pure_len Ty.sl31 rfl) rfl ?_ | refine TL.run1 (pure_len_row Ty.sl31 rfl (by repeat (first | exact List.Mem.head _ | apply List.Mem.tail))) rfl ?_ | refine TL.run1 (pure_len_nil Ty.sl31 rfl) rfl ?_
    refine TL.run1 (pure_lss rfl rfl) rfl ?_
    refine TL.nil' ?_
    first | refine TC.condD rfl (fun hc17 => ?_) (fun hc17 => ?_) | refine TC.condN rfl (fun hc17 => ?_) (fun hc17 => ?_) | refine TC.cond rfl (fun hc17 => ?_) (fun hc17 => ?_)
    · try dsimp only at hc17
      refine TC.skip' ?_
      refine TC.seq ?_
      refine TC.block ?_
      refine TC.seq ?_
      have hrow := encP_get ps i (by omega) (by omega)
      refine TC.region ?_
      refine TL.run1 (pure_move rfl) rfl ?_
      refine TL.run1 (pure_move rfl) rfl ?_
      refine TL.run1 (pure_indexAddr Ty.sl31 rfl rfl (by omega) (by assumption) (List.cons_ne_nil _ _)) rfl ?_
      first | refine TL.run1 (pure_fieldAddr Ty.f59_0 rfl (.zero _) (List.cons_ne_nil _ _)) rfl ?_ | refine TL.run1 (pure_fieldAddr_own Ty.f59_0 rfl) rfl ?_
      first | refine TL.run1 (pure_load1 Ty.one3 rfl) rfl ?_ | refine TL.run1 (pure_load1_own Ty.one3 rfl (by repeat (first | exact List.Mem.head _ | apply List.Mem.tail)) (by repeat (first | exact DropR.zero _ | apply DropR.succ))) rfl ?_
      refine TL.run1 (pure_call (Of_spec _) (.cons rfl .nil) Try.call13) rfl ?_
      refine TL.run1 (pure_move rfl) rfl ?_
      refine TL.run1 (pure_extract rfl rfl) rfl ?_
      refine TL.run1 (pure_extract rfl rfl) rfl ?_
      refine TL.alloc Ty.zero23 rfl (fun g6 => ?_)
      refine TL.store rfl rfl (.agg _) Try.sizeOf23 rfl (by repeat (first | exact UpdR.here _ | apply UpdR.there)) (by repeat (first | exact PutR.nil _ | apply PutR.here | apply PutR.skip)) ?_
      refine TL.run1 (pure_assign rfl) rfl ?_
      refine TL.nil' ?_
      refine TC.block ?_
      refine TC.seq ?_
      refine TC.region ?_
      refine TL.run1 (pure_move rfl) rfl ?_
      refine TL.run1 (pure_move rfl) rfl ?_
      refine TL.run1 (pure_move rfl) rfl ?_
      refine TL.run1 (pure_indexAddr Ty.sl31 rfl rfl (by omega) (by assumption) (List.cons_ne_nil _ _)) rfl ?_
      first | refine TL.run1 (pure_fieldAddr Ty.f59_0 rfl (.zero _) (List.cons_ne_nil _ _)) rfl ?_ | refine TL.run1 (pure_fieldAddr_own Ty.f59_0 rfl) rfl ?_
      first | refine TL.run1 (pure_load1 Ty.one3 rfl) rfl ?_ | refine TL.run1 (pure_load1_own Ty.one3 rfl (by repeat (first | exact List.Mem.head _ | apply List.Mem.tail)) (by repeat (first | exact DropR.zero _ | apply DropR.succ))) rfl ?_
      refine TL.run1 (pure_call (RFits_spec _ _) (.cons rfl (.cons rfl .nil)) Try.call16) rfl ?_
      refine TL.run1 (pure_not rfl) rfl ?_
      refine TL.run1 (pure_assign rfl) rfl ?_
      refine TL.nil' ?_
      first | refine TC.condD rfl (fun hc29 => ?_) (fun hc29 => ?_) | refine TC.condN rfl (fun hc29 => ?_) (fun hc29 => ?_) | refine TC.cond rfl (fun hc29 => ?_) (fun hc29 => ?_)
      · try dsimp only at hc29
        refine TC.seq ?_
        refine TC.region ?_
        refine TL.run1 (pure_assign rfl) rfl ?_
        refine TL.nil' ?_
        refine TC.ret ?_
        refine block_ret ?_
        refine block_ret ?_
        refine then_ret ?_
        refine loop_ret ?_
        refine block_ret ?_
        refine then_ret ?_
        have hE : errAt e ps i = 4 := by unfold errAt; rw [if_pos (by simpa using hc29)]
        exact ret_int rfl (by unfold checkP; rw [if_neg hc13, firstErr_at _ i h0 h2 (by rw [hE]; decide) _ (by omega), hE])
      · try dsimp only at hc29
        have hf : fitsP e (pAt ps i).1 = true := by simpa using hc29
        refine TC.drawCut [39, 40, 41, 42, 43, 44, 45, 46, 47, 48, 49, 50, 51, 52, 53, 54, 38] 38 (i > 0 ∧ (pAt ps i).1 = (pAt ps (i - 1)).1) Ty.follows (by kernel_rfl) ?_ ?_
        · skip
          refine TD.run1 (pure_move rfl) rfl ?_
          refine TD.run1 (pure_gtr rfl rfl) rfl ?_
          refine TD.run1 (pure_move rfl) rfl ?_
          first | refine TD.splitP 41 rfl (fun hg41 => ?_) (fun hg41 => ?_) | refine TD.split 41 rfl (fun hg41 => ?_) (fun hg41 => ?_)
          · try dsimp only at hg41
            have hrow2 := encP_get ps (i - 1) (by omega) (by omega)
            refine TD.runG rfl rfl (pure_move rfl) rfl ?_
            refine TD.runG rfl rfl (pure_move rfl) rfl ?_
            refine TD.runG rfl rfl (pure_indexAddr Ty.sl31 rfl rfl (by omega) (by assumption) (List.cons_ne_nil _ _)) rfl ?_
            first | refine TD.runG rfl rfl (pure_fieldAddr Ty.f59_0 rfl (.zero _) (List.cons_ne_nil _ _)) rfl ?_ | refine TD.runG rfl rfl (pure_fieldAddr_own Ty.f59_0 rfl) rfl ?_
            first | refine TD.runG rfl rfl (pure_load1 Ty.one3 rfl) rfl ?_ | refine TD.runG rfl rfl (pure_load1_own Ty.one3 rfl (by repeat (first | exact List.Mem.head _ | apply List.Mem.tail)) (by repeat (first | exact DropR.zero _ | apply DropR.succ))) rfl ?_
            refine TD.runG rfl rfl (pure_move rfl) rfl ?_
            refine TD.runG rfl rfl (pure_move rfl) rfl ?_
            refine TD.runG rfl rfl (pure_sub rfl rfl (mkI64 (by omega) (by omega))) rfl ?_
            refine TD.runG rfl rfl (pure_indexAddr Ty.sl31 rfl rfl (by omega) (by assumption) (List.cons_ne_nil _ _)) rfl ?_
            first | refine TD.runG rfl rfl (pure_fieldAddr Ty.f59_0 rfl (.zero _) (List.cons_ne_nil _ _)) rfl ?_ | refine TD.runG rfl rfl (pure_fieldAddr_own Ty.f59_0 rfl) rfl ?_
            first | refine TD.runG rfl rfl (pure_load1 Ty.one3 rfl) rfl ?_ | refine TD.runG rfl rfl (pure_load1_own Ty.one3 rfl (by repeat (first | exact List.Mem.head _ | apply List.Mem.tail)) (by repeat (first | exact DropR.zero _ | apply DropR.succ))) rfl ?_
            refine TD.runG rfl rfl (pure_eql rfl rfl) rfl ?_
            refine TD.run1 (pure_pick_true rfl rfl) rfl ?_
            refine TD.run1 (pure_assign rfl) rfl ?_
            refine TD.cutEnd (by repeat (first | exact Same.refl _ _ | refine Same.put rfl ?_)) rfl ?_
            first | (simp only [decide_eq_true_eq, Bool.false_eq_true, false_iff, true_iff, iff_true, iff_false, Bool.not_eq_true]; omega) | (simp_all; done) | (simp_all; omega) | grind
          · try dsimp only at hg41
            refine TD.passG rfl rfl rfl rfl ?_
            refine TD.passG rfl rfl rfl rfl ?_
            refine TD.passG rfl rfl rfl rfl ?_
            refine TD.passG rfl rfl rfl rfl ?_
            refine TD.passG rfl rfl rfl rfl ?_
            refine TD.passG rfl rfl rfl rfl ?_
            refine TD.passG rfl rfl rfl rfl ?_
            refine TD.passG rfl rfl rfl rfl ?_
            refine TD.passG rfl rfl rfl rfl ?_
            refine TD.passG rfl rfl rfl rfl ?_
            refine TD.passG rfl rfl rfl rfl ?_
            refine TD.passG rfl rfl rfl rfl ?_
            refine TD.run1 (pure_pick_false rfl rfl) rfl ?_
            refine TD.run1 (pure_assign rfl) rfl ?_
            refine TD.cutEnd (by repeat (first | exact Same.refl _ _ | refine Same.put rfl ?_)) rfl ?_
            first | (simp only [decide_eq_true_eq, Bool.false_eq_true, false_iff, true_iff, iff_true, iff_false, Bool.not_eq_true]; omega) | (simp_all; done) | (simp_all; omega) | grind
        first | refine TC.condD rfl (fun hc38 => ?_) (fun hc38 => ?_) | refine TC.condN rfl (fun hc38 => ?_) (fun hc38 => ?_) | refine TC.cond rfl (fun hc38 => ?_) (fun hc38 => ?_)
        · try dsimp only at hc38
          refine TC.seq ?_
          refine TC.region ?_
          refine TL.run1 (pure_assign rfl) rfl ?_
          refine TL.nil' ?_
          refine TC.ret ?_
          refine block_ret ?_
          refine block_ret ?_
          refine then_ret ?_
          refine loop_ret ?_
          refine block_ret ?_
          refine then_ret ?_
          have hE : errAt e ps i = 7 := by unfold errAt; rw [if_neg (by rw [hf]; simp), if_pos hc38]
          exact ret_int rfl (by unfold checkP; rw [if_neg hc13, firstErr_at _ i h0 h2 (by rw [hE]; decide) _ (by omega), hE])
        · try dsimp only at hc38
          refine TC.drawCut [56, 57, 58, 59, 60, 61, 62, 63, 64, 65, 66, 67, 68, 69, 70, 71, 55] 55 (i > 0 ∧ (pAt ps i).1 < (pAt ps (i - 1)).1) Ty.follows (by kernel_rfl) ?_ ?_
          · skip
            refine TD.run1 (pure_move rfl) rfl ?_
            refine TD.run1 (pure_gtr rfl rfl) rfl ?_
            refine TD.run1 (pure_move rfl) rfl ?_
            first | refine TD.splitP 58 rfl (fun hg58 => ?_) (fun hg58 => ?_) | refine TD.split 58 rfl (fun hg58 => ?_) (fun hg58 => ?_)
            · try dsimp only at hg58
              have hrow2 := encP_get ps (i - 1) (by omega) (by omega)
              refine TD.runG rfl rfl (pure_move rfl) rfl ?_
              refine TD.runG rfl rfl (pure_move rfl) rfl ?_
              refine TD.runG rfl rfl (pure_indexAddr Ty.sl31 rfl rfl (by omega) (by assumption) (List.cons_ne_nil _ _)) rfl ?_
              first | refine TD.runG rfl rfl (pure_fieldAddr Ty.f59_0 rfl (.zero _) (List.cons_ne_nil _ _)) rfl ?_ | refine TD.runG rfl rfl (pure_fieldAddr_own Ty.f59_0 rfl) rfl ?_
              first | refine TD.runG rfl rfl (pure_load1 Ty.one3 rfl) rfl ?_ | refine TD.runG rfl rfl (pure_load1_own Ty.one3 rfl (by repeat (first | exact List.Mem.head _ | apply List.Mem.tail)) (by repeat (first | exact DropR.zero _ | apply DropR.succ))) rfl ?_
              refine TD.runG rfl rfl (pure_move rfl) rfl ?_
              refine TD.runG rfl rfl (pure_move rfl) rfl ?_
              refine TD.runG rfl rfl (pure_sub rfl rfl (mkI64 (by omega) (by omega))) rfl ?_
              refine TD.runG rfl rfl (pure_indexAddr Ty.sl31 rfl rfl (by omega) (by assumption) (List.cons_ne_nil _ _)) rfl ?_
              first | refine TD.runG rfl rfl (pure_fieldAddr Ty.f59_0 rfl (.zero _) (List.cons_ne_nil _ _)) rfl ?_ | refine TD.runG rfl rfl (pure_fieldAddr_own Ty.f59_0 rfl) rfl ?_
              first | refine TD.runG rfl rfl (pure_load1 Ty.one3 rfl) rfl ?_ | refine TD.runG rfl rfl (pure_load1_own Ty.one3 rfl (by repeat (first | exact List.Mem.head _ | apply List.Mem.tail)) (by repeat (first | exact DropR.zero _ | apply DropR.succ))) rfl ?_
              refine TD.runG rfl rfl (pure_lss rfl rfl) rfl ?_
              refine TD.run1 (pure_pick_true rfl rfl) rfl ?_
              refine TD.run1 (pure_assign rfl) rfl ?_
              refine TD.cutEnd (by repeat (first | exact Same.refl _ _ | refine Same.put rfl ?_)) rfl ?_
              first | (simp only [decide_eq_true_eq, Bool.false_eq_true, false_iff, true_iff, iff_true, iff_false, Bool.not_eq_true]; omega) | (simp_all; done) | (simp_all; omega) | grind
            · try dsimp only at hg58
              refine TD.passG rfl rfl rfl rfl ?_
              refine TD.passG rfl rfl rfl rfl ?_
              refine TD.passG rfl rfl rfl rfl ?_
              refine TD.passG rfl rfl rfl rfl ?_
              refine TD.passG rfl rfl rfl rfl ?_
              refine TD.passG rfl rfl rfl rfl ?_
              refine TD.passG rfl rfl rfl rfl ?_
              refine TD.passG rfl rfl rfl rfl ?_
              refine TD.passG rfl rfl rfl rfl ?_
              refine TD.passG rfl rfl rfl rfl ?_
              refine TD.passG rfl rfl rfl rfl ?_
              refine TD.passG rfl rfl rfl rfl ?_
              refine TD.run1 (pure_pick_false rfl rfl) rfl ?_
              refine TD.run1 (pure_assign rfl) rfl ?_
              refine TD.cutEnd (by repeat (first | exact Same.refl _ _ | refine Same.put rfl ?_)) rfl ?_
              first | (simp only [decide_eq_true_eq, Bool.false_eq_true, false_iff, true_iff, iff_true, iff_false, Bool.not_eq_true]; omega) | (simp_all; done) | (simp_all; omega) | grind
          first | refine TC.condD rfl (fun hc55 => ?_) (fun hc55 => ?_) | refine TC.condN rfl (fun hc55 => ?_) (fun hc55 => ?_) | refine TC.cond rfl (fun hc55 => ?_) (fun hc55 => ?_)
          · try dsimp only at hc55
            refine TC.seq ?_
            refine TC.region ?_
            refine TL.run1 (pure_assign rfl) rfl ?_
            refine TL.nil' ?_
            refine TC.ret ?_
            refine block_ret ?_
            refine block_ret ?_
            refine then_ret ?_
            refine loop_ret ?_
            refine block_ret ?_
            refine then_ret ?_
            have hE : errAt e ps i = 6 := by unfold errAt; rw [if_neg (by rw [hf]; simp), if_neg hc38, if_pos hc55]
            exact ret_int rfl (by unfold checkP; rw [if_neg hc13, firstErr_at _ i h0 h2 (by rw [hE]; decide) _ (by omega), hE])
          · try dsimp only at hc55
            refine TC.drawCut [73, 74, 75, 76, 77, 78, 79, 80, 81, 82, 83, 84, 85, 86, 87, 88, 89, 90, 72] 72 ((pAt ps i).2 < (findK (pAt ps i).1).low ∨ (pAt ps i).2 > (findK (pAt ps i).1).high) Ty.follows (by kernel_rfl) ?_ ?_
            · skip
              refine TD.run1 (pure_move rfl) rfl ?_
              refine TD.run1 (pure_move rfl) rfl ?_
              refine TD.run1 (pure_indexAddr Ty.sl31 rfl rfl (by omega) (by assumption) (List.cons_ne_nil _ _)) rfl ?_
              first | refine TD.run1 (pure_fieldAddr Ty.f59_1 rfl (.succ (.zero _)) (List.cons_ne_nil _ _)) rfl ?_ | refine TD.run1 (pure_fieldAddr_own Ty.f59_1 rfl) rfl ?_
              first | refine TD.run1 (pure_load1 Ty.one3 rfl) rfl ?_ | refine TD.run1 (pure_load1_own Ty.one3 rfl (by repeat (first | exact List.Mem.head _ | apply List.Mem.tail)) (by repeat (first | exact DropR.zero _ | apply DropR.succ))) rfl ?_
              first | refine TD.run1 (pure_fieldAddr Ty.f23_2 rfl (.succ (.succ (.zero _))) (List.cons_ne_nil _ _)) rfl ?_ | refine TD.run1 (pure_fieldAddr_own Ty.f23_2 rfl) rfl ?_
              first | refine TD.run1 (pure_load1 Ty.one3 rfl) rfl ?_ | refine TD.run1 (pure_load1_own Ty.one3 rfl (by repeat (first | exact List.Mem.head _ | apply List.Mem.tail)) (by repeat (first | exact DropR.zero _ | apply DropR.succ))) rfl ?_
              refine TD.run1 (pure_lss rfl rfl) rfl ?_
              refine TD.run1 (pure_move rfl) rfl ?_
              first | refine TD.splitP 81 rfl (fun hg81 => ?_) (fun hg81 => ?_) | refine TD.split 81 rfl (fun hg81 => ?_) (fun hg81 => ?_)
              · try dsimp only at hg81
                refine TD.passG rfl rfl rfl rfl ?_
                refine TD.passG rfl rfl rfl rfl ?_
                refine TD.passG rfl rfl rfl rfl ?_
                refine TD.passG rfl rfl rfl rfl ?_
                refine TD.passG rfl rfl rfl rfl ?_
                refine TD.passG rfl rfl rfl rfl ?_
                refine TD.passG rfl rfl rfl rfl ?_
                refine TD.passG rfl rfl rfl rfl ?_
                refine TD.run1 (pure_pick_true rfl rfl) rfl ?_
                refine TD.run1 (pure_assign rfl) rfl ?_
                refine TD.cutEnd (by repeat (first | exact Same.refl _ _ | refine Same.put rfl ?_)) rfl ?_
                first | (simp only [decide_eq_true_eq, Bool.false_eq_true, false_iff, true_iff, iff_true, iff_false, Bool.not_eq_true]; omega) | (simp_all; done) | (simp_all; omega) | grind
              · try dsimp only at hg81
                refine TD.runG rfl rfl (pure_move rfl) rfl ?_
                refine TD.runG rfl rfl (pure_move rfl) rfl ?_
                refine TD.runG rfl rfl (pure_indexAddr Ty.sl31 rfl rfl (by omega) (by assumption) (List.cons_ne_nil _ _)) rfl ?_
                first | refine TD.runG rfl rfl (pure_fieldAddr Ty.f59_1 rfl (.succ (.zero _)) (List.cons_ne_nil _ _)) rfl ?_ | refine TD.runG rfl rfl (pure_fieldAddr_own Ty.f59_1 rfl) rfl ?_
                first | refine TD.runG rfl rfl (pure_load1 Ty.one3 rfl) rfl ?_ | refine TD.runG rfl rfl (pure_load1_own Ty.one3 rfl (by repeat (first | exact List.Mem.head _ | apply List.Mem.tail)) (by repeat (first | exact DropR.zero _ | apply DropR.succ))) rfl ?_
                first | refine TD.runG rfl rfl (pure_fieldAddr Ty.f23_3 rfl (.succ (.succ (.succ (.zero _)))) (List.cons_ne_nil _ _)) rfl ?_ | refine TD.runG rfl rfl (pure_fieldAddr_own Ty.f23_3 rfl) rfl ?_
                first | refine TD.runG rfl rfl (pure_load1 Ty.one3 rfl) rfl ?_ | refine TD.runG rfl rfl (pure_load1_own Ty.one3 rfl (by repeat (first | exact List.Mem.head _ | apply List.Mem.tail)) (by repeat (first | exact DropR.zero _ | apply DropR.succ))) rfl ?_
                refine TD.runG rfl rfl (pure_gtr rfl rfl) rfl ?_
                refine TD.run1 (pure_pick_false rfl rfl) rfl ?_
                refine TD.run1 (pure_assign rfl) rfl ?_
                refine TD.cutEnd (by repeat (first | exact Same.refl _ _ | refine Same.put rfl ?_)) rfl ?_
                first | (simp only [decide_eq_true_eq, Bool.false_eq_true, false_iff, true_iff, iff_true, iff_false, Bool.not_eq_true]; omega) | (simp_all; done) | (simp_all; omega) | grind
            first | refine TC.condD rfl (fun hc72 => ?_) (fun hc72 => ?_) | refine TC.condN rfl (fun hc72 => ?_) (fun hc72 => ?_) | refine TC.cond rfl (fun hc72 => ?_) (fun hc72 => ?_)
            · try dsimp only at hc72
              refine TC.seq ?_
              refine TC.region ?_
              refine TL.run1 (pure_assign rfl) rfl ?_
              refine TL.nil' ?_
              refine TC.ret ?_
              refine block_ret ?_
              refine block_ret ?_
              refine then_ret ?_
              refine loop_ret ?_
              refine block_ret ?_
              refine then_ret ?_
              have hE : errAt e ps i = 5 := by unfold errAt; unfold checkV; rw [if_neg (by rw [hf]; simp), if_neg hc38, if_neg hc55, if_neg (by rw [fits_in hf]; simp), if_pos hc72]
              exact ret_int rfl (by unfold checkP; rw [if_neg hc13, firstErr_at _ i h0 h2 (by rw [hE]; decide) _ (by omega), hE])
            · try dsimp only at hc72
              refine TC.skip ?_
              refine block_normal ?_
              refine block_normal ?_
              refine then_normal ?_
              refine TC.region ?_
              refine TL.run1 (pure_move rfl) rfl ?_
              refine TL.run1 (pure_add rfl rfl (mkI64 (by omega) (by omega))) rfl ?_
              refine TL.run1 (pure_assign rfl) rfl ?_
              refine TL.nil ?_
              refine loop_next (i + 1) ⟨by repeat (first | exact Agree.nil | refine Agree.cons rfl ?_), by repeat (first | exact List.nil_sublist _ | exact List.Sublist.refl _ | apply List.Sublist.cons_cons | apply List.Sublist.cons)⟩ ⟨by omega, by omega, fun j a b => ?_⟩ (by omega)
              rcases Int.lt_or_eq_of_le (show j ≤ i by omega) with h | h
              · exact h2 j a h
              · rw [h]; unfold errAt checkV; rw [if_neg (by rw [hf]; simp), if_neg hc38, if_neg hc55, if_neg (by rw [fits_in hf]; simp), if_neg hc72]
    · try dsimp only at hc17
      refine TC.exit ?_
      refine then_exit ?_
      refine loop_exit ?_
      refine block_here ?_
      refine then_normal ?_
      refine TC.seq ?_
      refine TC.region ?_
      refine TL.run1 (pure_assign rfl) rfl ?_
      refine TL.nil' ?_
      refine TC.ret ?_
      exact ret_int rfl (by unfold checkP; rw [if_neg hc13, firstErr_zero _ _ (fun j a b => h2 j a (by omega))])
set_option maxRecDepth 100000 in
theorem ordered_spec (l : List (Int × Int)) (hl : l.length ≤ 9223372036854775807) : Fun Try.prog 20 [.sl 2 (encP l)] (.sl 2 (encP (ordP l))) := by
  refine Fun.enterF (n := 42) (rs := [.tmp 2]) Try.func20 rfl Try.ntmps20 Try.results20 rfl (fun w F => ?_)
  refine TC.seq ?_
  refine TC.region ?_
  refine TL.run1 (pure_assign rfl) rfl ?_
  refine TL.nil' ?_
  refine TC.seq ?_
  refine TC.region ?_
  refine TL.run1 (pure_assign rfl) rfl ?_
  refine TL.nil' ?_
  refine TC.seq ?_
  refine TC.seq ?_
  refine TC.nilrow 59 2 ?_
  refine TC.region ?_
  refine TL.run1 (pure_assign rfl) rfl ?_
  refine TL.nil' ?_
  refine TC.block ?_
  refine TC.loopX (X := Int × Value) (fun (i, v) => [(0, .sl 2 (encP l)), (3, .v v), (4, .v (.int .i64 i))]) (fun (i, v) => [.row v 59 2 (encP (ordTo l i.toNat))]) (fun (i, v) => (0 ≤ i) ∧ (i ≤ l.length)) (fun (i, v) => (l.length - i).toNat) (0, .slice none 0 0) ⟨by skip; repeat (first | exact Agree.nil | refine Agree.cons rfl ?_), by skip; repeat (first | exact List.nil_sublist _ | exact List.Sublist.refl _ | apply List.Sublist.cons_cons | apply List.Sublist.cons)⟩ ?_ ?_
  · skip
    exact ⟨by omega, by omega⟩
  rintro ⟨i, v⟩
  rintro ⟨h0, h1⟩
  show TC _ _ _ (Env.of [(0, .sl 2 (encP l)), (3, .v v), (4, .v (.int .i64 i))]) [.row v 59 2 (encP (ordTo l i.toNat))]
  have hk := encP_len l
  have hok := encP_len (ordTo l i.toNat)
  have hol := (ordTo_spec l i.toNat).2
  refine TC.seq ?_
  refine TC.regionCut [5, 6, 7, 8, 9, 10, 11, 12, 13] 13 (i < l.length ∧ (ordTo l i.toNat).length < 60) ?_ ?_
  · skip
    refine TL.run1 (pure_move rfl) rfl ?_
    refine TL.run1 (pure_move rfl) rfl ?_
    first | refine TL.run1 (pure_len Ty.sl31 rfl) rfl ?_ | refine TL.run1 (pure_len_row Ty.sl31 rfl (by repeat (first | exact List.Mem.head _ | apply List.Mem.tail))) rfl ?_ | refine TL.run1 (pure_len_nil Ty.sl31 rfl) rfl ?_
    refine TL.run1 (pure_lss rfl rfl) rfl ?_
    refine TL.run1 (pure_move rfl) rfl ?_
    first | refine TL.splitP 9 rfl (fun hg9 => ?_) (fun hg9 => ?_) | refine TL.split 9 rfl (fun hg9 => ?_) (fun hg9 => ?_)
    · try dsimp only at hg9
      refine TL.runG rfl rfl (pure_move rfl) rfl ?_
      first | refine TL.runG rfl rfl (pure_len Ty.sl31 rfl) rfl ?_ | refine TL.runG rfl rfl (pure_len_row Ty.sl31 rfl (by repeat (first | exact List.Mem.head _ | apply List.Mem.tail))) rfl ?_ | refine TL.runG rfl rfl (pure_len_nil Ty.sl31 rfl) rfl ?_
      refine TL.runG rfl rfl (pure_lss rfl rfl) rfl ?_
      refine TL.run1 (pure_pick_true rfl rfl) rfl ?_
      refine TL.cutEnd (by repeat (first | exact Same.refl _ _ | refine Same.put rfl ?_)) rfl ?_
      first | (simp only [decide_eq_true_eq, Bool.false_eq_true, false_iff, true_iff, iff_true, iff_false, Bool.not_eq_true]; omega) | (simp_all; done) | (simp_all; omega) | grind
    · try dsimp only at hg9
      refine TL.passG rfl rfl rfl rfl ?_
      refine TL.passG rfl rfl rfl rfl ?_
      refine TL.passG rfl rfl rfl rfl ?_
      refine TL.run1 (pure_pick_false rfl rfl) rfl ?_
      refine TL.cutEnd (by repeat (first | exact Same.refl _ _ | refine Same.put rfl ?_)) rfl ?_
      first | (simp only [decide_eq_true_eq, Bool.false_eq_true, false_iff, true_iff, iff_true, iff_false, Bool.not_eq_true]; omega) | (simp_all; done) | (simp_all; omega) | grind
  first | refine TC.condD rfl (fun hc13 => ?_) (fun hc13 => ?_) | refine TC.condN rfl (fun hc13 => ?_) (fun hc13 => ?_) | refine TC.cond rfl (fun hc13 => ?_) (fun hc13 => ?_)
  · try dsimp only at hc13
    refine TC.skip' ?_
    refine TC.seq ?_
    refine TC.block ?_
    have hst : ordTo l (i + 1).toNat = if (ordTo l i.toNat).length < 60 ∧ ((ordTo l i.toNat).length = 0 ∨ (pAt (ordTo l i.toNat) ((ordTo l i.toNat).length - 1)).1 < (pAt l i).1) then (ordTo l i.toNat) ++ [pAt l i] else (ordTo l i.toNat) := by (rw [show (i + 1).toNat = i.toNat + 1 by omega]; show ordStep _ (pAt l (i.toNat : Int)) = _; rw [show ((i.toNat : Nat) : Int) = i by omega]; rfl)
    have hrow := encP_get l i (by omega) (by omega)
    refine TC.rowOwn (by repeat (first | exact List.Mem.head _ | apply List.Mem.tail)) (fun hvo => ?_)
    refine TC.drawCut [16, 17, 18, 19, 20, 21, 22, 23, 24, 25, 26, 27, 28, 29, 30, 31, 32, 33] 33 ((ordTo l i.toNat).length = 0 ∨ (pAt (ordTo l i.toNat) ((ordTo l i.toNat).length - 1)).1 < (pAt l i).1) Ty.follows (by kernel_rfl) ?_ ?_
    · skip
      refine TD.run1 (pure_move rfl) rfl ?_
      first | refine TD.run1 (pure_len Ty.sl31 rfl) rfl ?_ | refine TD.run1 (pure_len_row Ty.sl31 rfl (by repeat (first | exact List.Mem.head _ | apply List.Mem.tail))) rfl ?_ | refine TD.run1 (pure_len_nil Ty.sl31 rfl) rfl ?_
      refine TD.run1 (pure_eql rfl rfl) rfl ?_
      refine TD.run1 (pure_move rfl) rfl ?_
      first | refine TD.splitP 19 rfl (fun hg19 => ?_) (fun hg19 => ?_) | refine TD.split 19 rfl (fun hg19 => ?_) (fun hg19 => ?_)
      · try dsimp only at hg19
        refine TD.passG rfl rfl rfl rfl ?_
        refine TD.passG rfl rfl rfl rfl ?_
        refine TD.passG rfl rfl rfl rfl ?_
        refine TD.passG rfl rfl rfl rfl ?_
        refine TD.passG rfl rfl rfl rfl ?_
        refine TD.passG rfl rfl rfl rfl ?_
        refine TD.passG rfl rfl rfl rfl ?_
        refine TD.passG rfl rfl rfl rfl ?_
        refine TD.passG rfl rfl rfl rfl ?_
        refine TD.passG rfl rfl rfl rfl ?_
        refine TD.passG rfl rfl rfl rfl ?_
        refine TD.passG rfl rfl rfl rfl ?_
        refine TD.passG rfl rfl rfl rfl ?_
        refine TD.run1 (pure_pick_true rfl rfl) rfl ?_
        refine TD.cutEnd (by repeat (first | exact Same.refl _ _ | refine Same.put rfl ?_)) rfl ?_
        first | (simp only [decide_eq_true_eq, Bool.false_eq_true, false_iff, true_iff, iff_true, iff_false, Bool.not_eq_true]; omega) | (simp_all; done) | (simp_all; omega) | grind
      · try dsimp only at hg19
        have hgl := encP_get (ordTo l i.toNat) ((ordTo l i.toNat).length - 1) (by omega) (by omega)
        obtain ⟨g, hg⟩ : ∃ g, v.ownBlock = some g := hvo (by intro h; have h2 := congrArg List.length h; simp only [List.length_nil] at h2; omega)
        refine TD.runG rfl rfl (pure_move rfl) rfl ?_
        refine TD.runG rfl rfl (pure_move rfl) rfl ?_
        refine TD.runG rfl rfl (pure_indexAddr Ty.sl31 rfl rfl (by omega) (by assumption) (List.cons_ne_nil _ _)) rfl ?_
        first | refine TD.runG rfl rfl (pure_fieldAddr Ty.f59_0 rfl (.zero _) (List.cons_ne_nil _ _)) rfl ?_ | refine TD.runG rfl rfl (pure_fieldAddr_own Ty.f59_0 rfl) rfl ?_
        first | refine TD.runG rfl rfl (pure_load1 Ty.one3 rfl) rfl ?_ | refine TD.runG rfl rfl (pure_load1_own Ty.one3 rfl (by repeat (first | exact List.Mem.head _ | apply List.Mem.tail)) (by repeat (first | exact DropR.zero _ | apply DropR.succ))) rfl ?_
        refine TD.runG rfl rfl (pure_move rfl) rfl ?_
        refine TD.runG rfl rfl (pure_move rfl) rfl ?_
        first | refine TD.runG rfl rfl (pure_len Ty.sl31 rfl) rfl ?_ | refine TD.runG rfl rfl (pure_len_row Ty.sl31 rfl (by repeat (first | exact List.Mem.head _ | apply List.Mem.tail))) rfl ?_ | refine TD.runG rfl rfl (pure_len_nil Ty.sl31 rfl) rfl ?_
        refine TD.runG rfl rfl (pure_sub rfl rfl (mkI64 (by omega) (by omega))) rfl ?_
        refine TD.runG rfl rfl (pure_indexRow (xs := encP (ordTo l i.toNat)) Ty.sl31 rfl rfl (by repeat (first | exact List.Mem.head _ | apply List.Mem.tail)) hg (by omega) (by omega)) rfl ?_
        refine TD.runG rfl rfl (pure_fieldAddr_own Ty.f59_0 rfl) rfl ?_
        refine TD.runG rfl rfl (pure_load1_row (es := 2) (i := ((ordTo l i.toNat).length - 1 : Int).toNat) (o := 0) Ty.one3 (by decide) rfl hg (by repeat (first | exact List.Mem.head _ | apply List.Mem.tail)) (by omega) hgl (.zero _)) rfl ?_
        refine TD.runG rfl rfl (pure_gtr rfl rfl) rfl ?_
        refine TD.run1 (pure_pick_false rfl rfl) rfl ?_
        refine TD.cutEnd (by repeat (first | exact Same.refl _ _ | refine Same.put rfl ?_)) rfl ?_
        first | (simp only [decide_eq_true_eq, Bool.false_eq_true, false_iff, true_iff, iff_true, iff_false, Bool.not_eq_true]; omega) | (simp_all; done) | (simp_all; omega) | grind
    first | refine TC.condD rfl (fun hc33 => ?_) (fun hc33 => ?_) | refine TC.condN rfl (fun hc33 => ?_) (fun hc33 => ?_) | refine TC.cond rfl (fun hc33 => ?_) (fun hc33 => ?_)
    · try dsimp only at hc33
      refine TC.region ?_
      refine TL.run1 (pure_move rfl) rfl ?_
      refine TL.run1 (pure_move rfl) rfl ?_
      refine TL.run1 (pure_move rfl) rfl ?_
      refine TL.run1 (pure_indexAddr Ty.sl31 rfl rfl (by omega) (by assumption) (List.cons_ne_nil _ _)) rfl ?_
      first | refine TL.run1 (pure_load Ty.agg59 rfl (.succ (.succ (.zero _)))) rfl ?_ | refine TL.run1 (pure_load_own Ty.agg59 rfl (by repeat (first | exact List.Mem.head _ | apply List.Mem.tail)) (by repeat (first | exact DropR.zero _ | apply DropR.succ)) (.succ (.succ (.zero _)))) rfl ?_
      refine TL.run1 (pure_buildSlice (xs := [.tmp 38]) Ty.app31 (by decide) rfl rfl (.cons rfl (.agg _) rfl .nil)) rfl ?_
      refine TL.append Ty.app31 rfl rfl (by intro _; repeat (first | exact UpdR.here _ | apply UpdR.there)) (by simp only [List.length_append, List.length_cons, List.length_nil]; omega) (by simp only [List.length_append, List.length_cons, List.length_nil]; omega) rfl (fun v40 hv40 => ?_)
      refine TL.run1 (pure_assign rfl) rfl ?_
      refine TL.nil ?_
      refine block_normal ?_
      refine then_normal ?_
      refine TC.region ?_
      refine TL.run1 (pure_move rfl) rfl ?_
      refine TL.run1 (pure_add rfl rfl (mkI64 (by omega) (by omega))) rfl ?_
      refine TL.run1 (pure_assign rfl) rfl ?_
      refine TL.nil ?_
      refine loop_next (i + 1, v40) ⟨?_, ?_⟩ ⟨by omega, by omega⟩ (by dsimp only; omega)
      · repeat (first | exact Agree.nil | refine Agree.cons rfl ?_)
      · dsimp only; rw [hst, if_pos ⟨hc13.2, hc33⟩]
        rw [encP_snoc']; repeat (first | exact List.nil_sublist _ | exact List.Sublist.refl _ | apply List.Sublist.cons_cons | apply List.Sublist.cons)
    · try dsimp only at hc33
      refine TC.skip ?_
      refine block_normal ?_
      refine then_normal ?_
      refine TC.region ?_
      refine TL.run1 (pure_move rfl) rfl ?_
      refine TL.run1 (pure_add rfl rfl (mkI64 (by omega) (by omega))) rfl ?_
      refine TL.run1 (pure_assign rfl) rfl ?_
      refine TL.nil ?_
      refine loop_next (i + 1, v) ⟨?_, ?_⟩ ⟨by omega, by omega⟩ (by dsimp only; omega)
      · repeat (first | exact Agree.nil | refine Agree.cons rfl ?_)
      · dsimp only; rw [hst, if_neg (fun h => hc33 h.2)]
        repeat (first | exact List.nil_sublist _ | exact List.Sublist.refl _ | apply List.Sublist.cons_cons | apply List.Sublist.cons)
  · try dsimp only at hc13
    refine TC.exit ?_
    refine then_exit ?_
    refine loop_exit ?_
    refine block_here ?_
    refine then_normal ?_
    refine TC.seq ?_
    obtain ⟨d, hd⟩ : ∃ d, l.length = i.toNat + d := ⟨l.length - i.toNat, by omega⟩
    have hfin : ordP l = (ordTo l i.toNat) := by
      unfold ordP
      rw [hd]
      rcases Nat.lt_or_ge i.toNat l.length with h | h
      · exact ordTo_full l d _ (by omega)
      · obtain rfl : d = 0 := by omega
        rfl
    refine TC.region ?_
    refine TL.run1 (pure_move rfl) rfl ?_
    refine TL.run1 (pure_assign rfl) rfl ?_
    refine TL.nil' ?_
    refine TC.ret ?_
    rw [hfin]
    exact retF_row rfl (by repeat (first | exact List.Mem.head _ | apply List.Mem.tail)) (by decide) (encP_each _) rfl

theorem eqP_ext (a b : List (Int × Int)) (hl : a.length = b.length) (h : ∀ j : Int, 0 ≤ j → j < a.length → pAt a j = pAt b j) : a = b := by
  refine List.ext_getElem hl fun j h1 h2 => ?_
  have := h j (by omega) (by omega)
  simpa [pAt, h1, h2] using this
set_option maxRecDepth 100000 in
theorem REqual_spec (a b : List (Int × Int)) (hl : a.length ≤ 1000000) : Fun Try.prog 22 [.sl 2 (encP a), .sl 2 (encP b)] (.v (.bool (decide (a = b)))) := by
  refine Fun.enter (n := 26) (rs := [.tmp 4]) Try.func22 rfl Try.ntmps22 Try.results22 rfl (fun w F => ?_)
  have hka := encP_len a
  have hkb := encP_len b
  refine TC.seq ?_
  refine TC.region ?_
  refine TL.run1 (pure_assign rfl) rfl ?_
  refine TL.nil' ?_
  refine TC.seq ?_
  refine TC.seq ?_
  refine TC.region ?_
  refine TL.run1 (pure_move rfl) rfl ?_
  first | refine TL.run1 (pure_len Ty.sl31 rfl) rfl ?_ | refine TL.run1 (pure_len_row Ty.sl31 rfl (by repeat (first | exact List.Mem.head _ | apply List.Mem.tail))) rfl ?_ | refine TL.run1 (pure_len_nil Ty.sl31 rfl) rfl ?_
  refine TL.run1 (pure_move rfl) rfl ?_
  first | refine TL.run1 (pure_len Ty.sl31 rfl) rfl ?_ | refine TL.run1 (pure_len_row Ty.sl31 rfl (by repeat (first | exact List.Mem.head _ | apply List.Mem.tail))) rfl ?_ | refine TL.run1 (pure_len_nil Ty.sl31 rfl) rfl ?_
  refine TL.run1 (pure_neq rfl rfl) rfl ?_
  refine TL.nil' ?_
  first | refine TC.condD rfl (fun hc10 => ?_) (fun hc10 => ?_) | refine TC.condN rfl (fun hc10 => ?_) (fun hc10 => ?_) | refine TC.cond rfl (fun hc10 => ?_) (fun hc10 => ?_)
  · try dsimp only at hc10
    refine TC.seq ?_
    refine TC.region ?_
    refine TL.run1 (pure_assign rfl) rfl ?_
    refine TL.nil' ?_
    refine TC.ret ?_
    refine then_ret ?_
    exact ret_bool rfl (by symm; rw [decide_eq_false_iff_not]; rintro rfl; omega)
  · try dsimp only at hc10
    refine TC.skip' ?_
    refine TC.seq ?_
    refine TC.seq ?_
    refine TC.region ?_
    refine TL.run1 (pure_assign rfl) rfl ?_
    refine TL.nil' ?_
    refine TC.block ?_
    refine TC.loopX (X := Int) (fun i => [(0, .sl 2 (encP a)), (1, .sl 2 (encP b)), (5, .v (.int .i64 i))]) (fun i => []) (fun i => (0 ≤ i) ∧ (i ≤ a.length) ∧ (∀ j : Int, 0 ≤ j → j < i → pAt a j = pAt b j)) (fun i => (a.length - i).toNat) (0) ⟨by skip; repeat (first | exact Agree.nil | refine Agree.cons rfl ?_), by skip; repeat (first | exact List.nil_sublist _ | exact List.Sublist.refl _ | apply List.Sublist.cons_cons | apply List.Sublist.cons)⟩ ?_ ?_
    · skip
      exact ⟨by omega, by omega, fun j _ _ => by omega⟩
    intro i
    rintro ⟨h0, h1, h2⟩
    show TC _ _ _ (Env.of [(0, .sl 2 (encP a)), (1, .sl 2 (encP b)), (5, .v (.int .i64 i))]) []
    refine TC.seq ?_
    refine TC.seq ?_
    refine TC.region ?_
    refine TL.run1 (pure_move rfl) rfl ?_
    refine TL.run1 (pure_move rfl) rfl ?_
    first | refine TL.run1 (pure_len Ty.sl31 rfl) rfl ?_ | refine TL.run1 (pure_len_row Ty.sl31 rfl (by repeat (first | exact List.Mem.head _ | apply List.Mem.tail))) rfl ?_ | refine TL.run1 (pure_len_nil Ty.sl31 rfl) rfl ?_
    refine TL.run1 (pure_lss rfl rfl) rfl ?_
    refine TL.nil' ?_
    first | refine TC.condD rfl (fun hc14 => ?_) (fun hc14 => ?_) | refine TC.condN rfl (fun hc14 => ?_) (fun hc14 => ?_) | refine TC.cond rfl (fun hc14 => ?_) (fun hc14 => ?_)
    · try dsimp only at hc14
      refine TC.skip' ?_
      refine TC.seq ?_
      refine TC.block ?_
      refine TC.seq ?_
      have hra := encP_get a i (by omega) (by omega)
      have hrb := encP_get b i (by omega) (by omega)
      refine TC.draw Ty.follows (by kernel_rfl) ?_
      refine TD.run1 (pure_move rfl) rfl ?_
      refine TD.run1 (pure_move rfl) rfl ?_
      refine TD.run1 (pure_indexAddr Ty.sl31 rfl rfl (by omega) (by assumption) (List.cons_ne_nil _ _)) rfl ?_
      first | refine TD.run1 (pure_load Ty.agg59 rfl (.succ (.succ (.zero _)))) rfl ?_ | refine TD.run1 (pure_load_own Ty.agg59 rfl (by repeat (first | exact List.Mem.head _ | apply List.Mem.tail)) (by repeat (first | exact DropR.zero _ | apply DropR.succ)) (.succ (.succ (.zero _)))) rfl ?_
      refine TD.run1 (pure_move rfl) rfl ?_
      refine TD.run1 (pure_move rfl) rfl ?_
      refine TD.run1 (pure_indexAddr Ty.sl31 rfl rfl (by omega) (by assumption) (List.cons_ne_nil _ _)) rfl ?_
      first | refine TD.run1 (pure_load Ty.agg59 rfl (.succ (.succ (.zero _)))) rfl ?_ | refine TD.run1 (pure_load_own Ty.agg59 rfl (by repeat (first | exact List.Mem.head _ | apply List.Mem.tail)) (by repeat (first | exact DropR.zero _ | apply DropR.succ)) (.succ (.succ (.zero _)))) rfl ?_
      refine TD.run1 (pure_neq_agg Ty.eq59 rfl rfl (.cons (.cons .nil)) (.cons (.cons .nil)) rfl rfl) rfl ?_
      refine TD.nil' ?_
      first | refine TC.condD rfl (fun hc25 => ?_) (fun hc25 => ?_) | refine TC.condN rfl (fun hc25 => ?_) (fun hc25 => ?_) | refine TC.cond rfl (fun hc25 => ?_) (fun hc25 => ?_)
      · try dsimp only at hc25
        refine TC.seq ?_
        refine TC.region ?_
        refine TL.run1 (pure_assign rfl) rfl ?_
        refine TL.nil' ?_
        refine TC.ret ?_
        refine block_ret ?_
        refine then_ret ?_
        refine loop_ret ?_
        refine block_ret ?_
        refine then_ret ?_
        exact ret_bool rfl (by symm; rw [decide_eq_false_iff_not]; rintro rfl; exact hc25 rfl)
      · try dsimp only at hc25
        refine TC.skip ?_
        refine block_normal ?_
        refine then_normal ?_
        refine TC.region ?_
        refine TL.run1 (pure_move rfl) rfl ?_
        refine TL.run1 (pure_add rfl rfl (mkI64 (by omega) (by omega))) rfl ?_
        refine TL.run1 (pure_assign rfl) rfl ?_
        refine TL.nil ?_
        refine loop_next (i + 1) ⟨by repeat (first | exact Agree.nil | refine Agree.cons rfl ?_), by repeat (first | exact List.nil_sublist _ | exact List.Sublist.refl _ | apply List.Sublist.cons_cons | apply List.Sublist.cons)⟩ ⟨by omega, by omega, fun j a b => ?_⟩ (by omega)
        rcases Int.lt_or_eq_of_le (show j ≤ i by omega) with h | h
        · exact h2 j a h
        · rw [h]; have := Decidable.not_not.1 hc25; simp only [List.cons.injEq, and_true] at this; exact Prod.ext this.1 this.2
    · try dsimp only at hc14
      refine TC.exit ?_
      refine then_exit ?_
      refine loop_exit ?_
      refine block_here ?_
      refine then_normal ?_
      refine TC.seq ?_
      refine TC.region ?_
      refine TL.run1 (pure_assign rfl) rfl ?_
      refine TL.nil' ?_
      refine TC.ret ?_
      exact ret_bool rfl (by symm; rw [decide_eq_true_eq]; exact eqP_ext a b (by omega) fun j c d => h2 j c (by omega))

theorem clearP_take (l : List (Int × Int)) (key : Int) (i : Int) (h0 : 0 ≤ i) (h1 : i < l.length) : clearP (l.take (i + 1).toNat) key = if (pAt l i).1 ≠ key then clearP (l.take i.toNat) key ++ [pAt l i] else clearP (l.take i.toNat) key := by
  have hl : i.toNat < l.length := by omega
  rw [show (i + 1).toNat = i.toNat + 1 by omega, List.take_succ_eq_append_getElem hl]
  have : l[i.toNat] = pAt l i := by simp [pAt, hl]
  rw [this]
  unfold clearP
  rw [List.filter_append]
  by_cases h : (pAt l i).1 ≠ key
  · rw [if_pos h, List.filter_cons_of_pos (by simpa using h)]; rfl
  · rw [if_neg h, List.filter_cons_of_neg (by simpa using h)]; simp
theorem take_all (l : List (Int × Int)) (i : Int) (h : (l.length : Int) ≤ i) : l.take i.toNat = l := List.take_of_length_le (by omega)
theorem takeP_snoc (l : List (Int × Int)) (i : Int) (h0 : 0 ≤ i) (h1 : i < l.length) : l.take (i + 1).toNat = l.take i.toNat ++ [pAt l i] := by
  have hl : i.toNat < l.length := by omega
  rw [show (i + 1).toNat = i.toNat + 1 by omega, List.take_succ_eq_append_getElem hl]
  simp [pAt, hl]
theorem while_at (l : List (Int × Int)) (key : Int) : ∀ (i : Int), 0 ≤ i → i ≤ l.length → (∀ j : Int, 0 ≤ j → j < i → (pAt l j).1 < key) → (i < l.length → ¬ (pAt l i).1 < key) →
    l.takeWhile (fun p => decide (p.1 < key)) = l.take i.toNat ∧ l.dropWhile (fun p => decide (p.1 < key)) = l.drop i.toNat := by
  have key' : ∀ (l : List (Int × Int)) (n : Nat), n ≤ l.length → (∀ m, m < n → (l.getD m (0, 0)).1 < key) → (n < l.length → ¬ (l.getD n (0, 0)).1 < key) →
      l.takeWhile (fun p => decide (p.1 < key)) = l.take n ∧ l.dropWhile (fun p => decide (p.1 < key)) = l.drop n := by
    intro l
    induction l with
    | nil => intro n; simp
    | cons p l ih =>
      intro n hn h1 h2
      cases n with
      | zero =>
        have := h2 (by simp)
        simp only [List.getD_cons_zero] at this
        rw [List.takeWhile_cons_of_neg (by simpa using this), List.dropWhile_cons_of_neg (by simpa using this)]
        exact ⟨rfl, rfl⟩
      | succ n =>
        have := h1 0 (by omega)
        simp only [List.getD_cons_zero] at this
        obtain ⟨i1, i2⟩ := ih n (by simpa using hn) (fun m hm => by have := h1 (m + 1) (by omega); simpa using this) (fun hl => by have := h2 (by simpa using hl); simpa using this)
        rw [List.takeWhile_cons_of_pos (by simpa using this), List.dropWhile_cons_of_pos (by simpa using this), i1, i2]
        exact ⟨rfl, rfl⟩
  intro i h0 h1 h2 h3
  exact key' l i.toNat (by omega) (fun m hm => by have := h2 m (by omega) (by omega); simpa [pAt] using this) (fun hl => h3 (by omega))
set_option maxRecDepth 100000 in
theorem RClear_spec (l : List (Int × Int)) (key : Int) (hl : l.length ≤ 1000000) : Fun Try.prog 38 [.sl 2 (encP l), .v (.int .i64 key)] (.sl 2 (encP (clearP l key))) := by
  refine Fun.enterF (n := 28) (rs := [.tmp 4]) Try.func38 rfl Try.ntmps38 Try.results38 rfl (fun w F => ?_)
  refine TC.seq ?_
  refine TC.region ?_
  refine TL.run1 (pure_assign rfl) rfl ?_
  refine TL.nil' ?_
  refine TC.seq ?_
  refine TC.region ?_
  refine TL.run1 (pure_assign rfl) rfl ?_
  refine TL.nil' ?_
  refine TC.seq ?_
  refine TC.seq ?_
  refine TC.nilrow 59 2 ?_
  refine TC.region ?_
  refine TL.run1 (pure_assign rfl) rfl ?_
  refine TL.nil' ?_
  refine TC.block ?_
  refine TC.loopX (X := Int × Value) (fun (i, v) => [(0, .sl 2 (encP l)), (1, .v (.int .i64 key)), (5, .v v), (6, .v (.int .i64 i))]) (fun (i, v) => [.row v 59 2 (encP (clearP (l.take i.toNat) key))]) (fun (i, v) => (0 ≤ i) ∧ (i ≤ l.length)) (fun (i, v) => (l.length - i).toNat) (0, .slice none 0 0) ⟨by skip; repeat (first | exact Agree.nil | refine Agree.cons rfl ?_), by skip; repeat (first | exact List.nil_sublist _ | exact List.Sublist.refl _ | apply List.Sublist.cons_cons | apply List.Sublist.cons)⟩ ?_ ?_
  · skip
    exact ⟨by omega, by omega⟩
  rintro ⟨i, v⟩
  rintro ⟨h0, h1⟩
  show TC _ _ _ (Env.of [(0, .sl 2 (encP l)), (1, .v (.int .i64 key)), (5, .v v), (6, .v (.int .i64 i))]) [.row v 59 2 (encP (clearP (l.take i.toNat) key))]
  have hk := encP_len l
  have hck := encP_len (clearP (l.take i.toNat) key)
  have hcl := clearP_len (l.take i.toNat) key
  have htl : (l.take i.toNat).length ≤ l.length := by rw [List.length_take]; omega
  refine TC.seq ?_
  refine TC.seq ?_
  refine TC.region ?_
  refine TL.run1 (pure_move rfl) rfl ?_
  refine TL.run1 (pure_move rfl) rfl ?_
  first | refine TL.run1 (pure_len Ty.sl31 rfl) rfl ?_ | refine TL.run1 (pure_len_row Ty.sl31 rfl (by repeat (first | exact List.Mem.head _ | apply List.Mem.tail))) rfl ?_ | refine TL.run1 (pure_len_nil Ty.sl31 rfl) rfl ?_
  refine TL.run1 (pure_lss rfl rfl) rfl ?_
  refine TL.nil' ?_
  first | refine TC.condD rfl (fun hc10 => ?_) (fun hc10 => ?_) | refine TC.condN rfl (fun hc10 => ?_) (fun hc10 => ?_) | refine TC.cond rfl (fun hc10 => ?_) (fun hc10 => ?_)
  · try dsimp only at hc10
    refine TC.skip' ?_
    refine TC.seq ?_
    refine TC.block ?_
    refine TC.seq ?_
    have hrow := encP_get l i (by omega) (by omega)
    refine TC.region ?_
    refine TL.run1 (pure_move rfl) rfl ?_
    refine TL.run1 (pure_move rfl) rfl ?_
    refine TL.run1 (pure_indexAddr Ty.sl31 rfl rfl (by omega) (by assumption) (List.cons_ne_nil _ _)) rfl ?_
    first | refine TL.run1 (pure_fieldAddr Ty.f59_0 rfl (.zero _) (List.cons_ne_nil _ _)) rfl ?_ | refine TL.run1 (pure_fieldAddr_own Ty.f59_0 rfl) rfl ?_
    first | refine TL.run1 (pure_load1 Ty.one3 rfl) rfl ?_ | refine TL.run1 (pure_load1_own Ty.one3 rfl (by repeat (first | exact List.Mem.head _ | apply List.Mem.tail)) (by repeat (first | exact DropR.zero _ | apply DropR.succ))) rfl ?_
    refine TL.run1 (pure_move rfl) rfl ?_
    refine TL.run1 (pure_neq rfl rfl) rfl ?_
    refine TL.nil' ?_
    first | refine TC.condD rfl (fun hc19 => ?_) (fun hc19 => ?_) | refine TC.condN rfl (fun hc19 => ?_) (fun hc19 => ?_) | refine TC.cond rfl (fun hc19 => ?_) (fun hc19 => ?_)
    · try dsimp only at hc19
      refine TC.region ?_
      refine TL.run1 (pure_move rfl) rfl ?_
      refine TL.run1 (pure_move rfl) rfl ?_
      refine TL.run1 (pure_move rfl) rfl ?_
      refine TL.run1 (pure_indexAddr Ty.sl31 rfl rfl (by omega) (by assumption) (List.cons_ne_nil _ _)) rfl ?_
      first | refine TL.run1 (pure_load Ty.agg59 rfl (.succ (.succ (.zero _)))) rfl ?_ | refine TL.run1 (pure_load_own Ty.agg59 rfl (by repeat (first | exact List.Mem.head _ | apply List.Mem.tail)) (by repeat (first | exact DropR.zero _ | apply DropR.succ)) (.succ (.succ (.zero _)))) rfl ?_
      refine TL.run1 (pure_buildSlice (xs := [.tmp 24]) Ty.app31 (by decide) rfl rfl (.cons rfl (.agg _) rfl .nil)) rfl ?_
      refine TL.append Ty.app31 rfl rfl (by intro _; repeat (first | exact UpdR.here _ | apply UpdR.there)) (by simp only [List.length_append, List.length_cons, List.length_nil]; omega) (by simp only [List.length_append, List.length_cons, List.length_nil]; omega) rfl (fun v26 hv26 => ?_)
      refine TL.run1 (pure_assign rfl) rfl ?_
      refine TL.nil ?_
      refine block_normal ?_
      refine then_normal ?_
      refine TC.region ?_
      refine TL.run1 (pure_move rfl) rfl ?_
      refine TL.run1 (pure_add rfl rfl (mkI64 (by omega) (by omega))) rfl ?_
      refine TL.run1 (pure_assign rfl) rfl ?_
      refine TL.nil ?_
      refine loop_next (i + 1, v26) ⟨?_, ?_⟩ ⟨by omega, by omega⟩ (by dsimp only; omega)
      · repeat (first | exact Agree.nil | refine Agree.cons rfl ?_)
      · dsimp only; rw [clearP_take l key i h0 (by omega), if_pos hc19]
        rw [encP_snoc']; repeat (first | exact List.nil_sublist _ | exact List.Sublist.refl _ | apply List.Sublist.cons_cons | apply List.Sublist.cons)
    · try dsimp only at hc19
      refine TC.skip ?_
      refine block_normal ?_
      refine then_normal ?_
      refine TC.region ?_
      refine TL.run1 (pure_move rfl) rfl ?_
      refine TL.run1 (pure_add rfl rfl (mkI64 (by omega) (by omega))) rfl ?_
      refine TL.run1 (pure_assign rfl) rfl ?_
      refine TL.nil ?_
      refine loop_next (i + 1, v) ⟨?_, ?_⟩ ⟨by omega, by omega⟩ (by dsimp only; omega)
      · repeat (first | exact Agree.nil | refine Agree.cons rfl ?_)
      · dsimp only; rw [clearP_take l key i h0 (by omega), if_neg hc19]
        repeat (first | exact List.nil_sublist _ | exact List.Sublist.refl _ | apply List.Sublist.cons_cons | apply List.Sublist.cons)
  · try dsimp only at hc10
    refine TC.exit ?_
    refine then_exit ?_
    refine loop_exit ?_
    refine block_here ?_
    refine then_normal ?_
    refine TC.seq ?_
    have hfin := take_all l i (by omega)
    refine TC.region ?_
    refine TL.run1 (pure_move rfl) rfl ?_
    refine TL.run1 (pure_assign rfl) rfl ?_
    refine TL.nil' ?_
    refine TC.ret ?_
    refine retF_row rfl (by repeat (first | exact List.Mem.head _ | apply List.Mem.tail)) (by decide) (encP_each _) (by rw [hfin])
set_option maxRecDepth 100000 in
theorem RSet_spec (l : List (Int × Int)) (key value : Int) (hl : l.length ≤ 1000000) : Fun Try.prog 37 [.sl 2 (encP l), .v (.int .i64 key), .v (.int .i64 value)] (.sl 2 (encP (setP l key value))) := by
  refine Fun.enterF (n := 46) (rs := [.tmp 6]) Try.func37 rfl Try.ntmps37 Try.results37 rfl (fun w F => ?_)
  refine TC.seq ?_
  refine TC.region ?_
  refine TL.run1 (pure_assign rfl) rfl ?_
  refine TL.nil' ?_
  refine TC.seq ?_
  refine TC.region ?_
  refine TL.run1 (pure_assign rfl) rfl ?_
  refine TL.nil' ?_
  refine TC.seq ?_
  refine TC.region ?_
  refine TL.run1 (pure_move rfl) rfl ?_
  refine TL.run1 (pure_move rfl) rfl ?_
  refine TL.run1 (pure_call (RClear_spec _ _ hl) (.cons rfl (.cons rfl .nil)) Try.call38) rfl ?_
  refine TL.run1 (pure_assign rfl) rfl ?_
  refine TL.nil' ?_
  refine TC.seq ?_
  refine TC.nilrow 59 2 ?_
  refine TC.region ?_
  refine TL.run1 (pure_assign rfl) rfl ?_
  refine TL.nil' ?_
  refine TC.seq ?_
  refine TC.block ?_
  refine TC.loopX (X := Int × Value) (fun (i, v) => [(1, .v (.int .i64 key)), (2, .v (.int .i64 value)), (7, .v v), (8, .sl 2 (encP (clearP l key))), (9, .v (.int .i64 i))]) (fun (i, v) => [.row v 59 2 (encP ((clearP l key).take i.toNat))]) (fun (i, v) => (0 ≤ i) ∧ (i ≤ (clearP l key).length) ∧ (∀ j : Int, 0 ≤ j → j < i → (pAt (clearP l key) j).1 < key)) (fun (i, v) => ((clearP l key).length - i).toNat) (0, .slice none 0 0) ⟨by skip; repeat (first | exact Agree.nil | refine Agree.cons rfl ?_), by skip; repeat (first | exact List.nil_sublist _ | exact List.Sublist.refl _ | apply List.Sublist.cons_cons | apply List.Sublist.cons)⟩ ?_ ?_
  · skip
    exact ⟨by omega, by omega, fun j _ _ => by omega⟩
  rintro ⟨i, v⟩
  rintro ⟨h0, h1, h2⟩
  show TC _ _ _ (Env.of [(1, .v (.int .i64 key)), (2, .v (.int .i64 value)), (7, .v v), (8, .sl 2 (encP (clearP l key))), (9, .v (.int .i64 i))]) [.row v 59 2 (encP ((clearP l key).take i.toNat))]
  have hk := encP_len (clearP l key)
  have htk := encP_len ((clearP l key).take i.toNat)
  have hcl := clearP_len l key
  have htl : ((clearP l key).take i.toNat).length ≤ (clearP l key).length := by rw [List.length_take]; omega
  refine TC.seq ?_
  refine TC.regionCut [13, 14, 15, 16, 17, 18, 19, 20, 21, 22, 23, 24, 25] 25 (i < (clearP l key).length ∧ (pAt (clearP l key) i).1 < key) ?_ ?_
  · skip
    refine TL.run1 (pure_move rfl) rfl ?_
    refine TL.run1 (pure_move rfl) rfl ?_
    first | refine TL.run1 (pure_len Ty.sl31 rfl) rfl ?_ | refine TL.run1 (pure_len_row Ty.sl31 rfl (by repeat (first | exact List.Mem.head _ | apply List.Mem.tail))) rfl ?_ | refine TL.run1 (pure_len_nil Ty.sl31 rfl) rfl ?_
    refine TL.run1 (pure_lss rfl rfl) rfl ?_
    refine TL.run1 (pure_move rfl) rfl ?_
    first | refine TL.splitP 17 rfl (fun hg17 => ?_) (fun hg17 => ?_) | refine TL.split 17 rfl (fun hg17 => ?_) (fun hg17 => ?_)
    · try dsimp only at hg17
      have hrow := encP_get (clearP l key) i (by omega) (by omega)
      refine TL.runG rfl rfl (pure_move rfl) rfl ?_
      refine TL.runG rfl rfl (pure_move rfl) rfl ?_
      refine TL.runG rfl rfl (pure_indexAddr Ty.sl31 rfl rfl (by omega) (by assumption) (List.cons_ne_nil _ _)) rfl ?_
      first | refine TL.runG rfl rfl (pure_fieldAddr Ty.f59_0 rfl (.zero _) (List.cons_ne_nil _ _)) rfl ?_ | refine TL.runG rfl rfl (pure_fieldAddr_own Ty.f59_0 rfl) rfl ?_
      first | refine TL.runG rfl rfl (pure_load1 Ty.one3 rfl) rfl ?_ | refine TL.runG rfl rfl (pure_load1_own Ty.one3 rfl (by repeat (first | exact List.Mem.head _ | apply List.Mem.tail)) (by repeat (first | exact DropR.zero _ | apply DropR.succ))) rfl ?_
      refine TL.runG rfl rfl (pure_move rfl) rfl ?_
      refine TL.runG rfl rfl (pure_lss rfl rfl) rfl ?_
      refine TL.run1 (pure_pick_true rfl rfl) rfl ?_
      refine TL.cutEnd (by repeat (first | exact Same.refl _ _ | refine Same.put rfl ?_)) rfl ?_
      first | (simp only [decide_eq_true_eq, Bool.false_eq_true, false_iff, true_iff, iff_true, iff_false, Bool.not_eq_true]; omega) | (simp_all; done) | (simp_all; omega) | grind
    · try dsimp only at hg17
      refine TL.passG rfl rfl rfl rfl ?_
      refine TL.passG rfl rfl rfl rfl ?_
      refine TL.passG rfl rfl rfl rfl ?_
      refine TL.passG rfl rfl rfl rfl ?_
      refine TL.passG rfl rfl rfl rfl ?_
      refine TL.passG rfl rfl rfl rfl ?_
      refine TL.passG rfl rfl rfl rfl ?_
      refine TL.run1 (pure_pick_false rfl rfl) rfl ?_
      refine TL.cutEnd (by repeat (first | exact Same.refl _ _ | refine Same.put rfl ?_)) rfl ?_
      first | (simp only [decide_eq_true_eq, Bool.false_eq_true, false_iff, true_iff, iff_true, iff_false, Bool.not_eq_true]; omega) | (simp_all; done) | (simp_all; omega) | grind
  first | refine TC.condD rfl (fun hc25 => ?_) (fun hc25 => ?_) | refine TC.condN rfl (fun hc25 => ?_) (fun hc25 => ?_) | refine TC.cond rfl (fun hc25 => ?_) (fun hc25 => ?_)
  · try dsimp only at hc25
    refine TC.skip' ?_
    refine TC.block ?_
    refine TC.seq ?_
    have hrow := encP_get (clearP l key) i (by omega) (by omega)
    refine TC.region ?_
    refine TL.run1 (pure_move rfl) rfl ?_
    refine TL.run1 (pure_move rfl) rfl ?_
    refine TL.run1 (pure_move rfl) rfl ?_
    refine TL.run1 (pure_indexAddr Ty.sl31 rfl rfl (by omega) (by assumption) (List.cons_ne_nil _ _)) rfl ?_
    first | refine TL.run1 (pure_load Ty.agg59 rfl (.succ (.succ (.zero _)))) rfl ?_ | refine TL.run1 (pure_load_own Ty.agg59 rfl (by repeat (first | exact List.Mem.head _ | apply List.Mem.tail)) (by repeat (first | exact DropR.zero _ | apply DropR.succ)) (.succ (.succ (.zero _)))) rfl ?_
    refine TL.run1 (pure_buildSlice (xs := [.tmp 30]) Ty.app31 (by decide) rfl rfl (.cons rfl (.agg _) rfl .nil)) rfl ?_
    refine TL.append Ty.app31 rfl rfl (by intro _; repeat (first | exact UpdR.here _ | apply UpdR.there)) (by simp only [List.length_append, List.length_cons, List.length_nil]; omega) (by simp only [List.length_append, List.length_cons, List.length_nil]; omega) rfl (fun v32 hv32 => ?_)
    refine TL.run1 (pure_assign rfl) rfl ?_
    refine TL.nil' ?_
    refine TC.region ?_
    refine TL.run1 (pure_move rfl) rfl ?_
    refine TL.run1 (pure_add rfl rfl (mkI64 (by omega) (by omega))) rfl ?_
    refine TL.run1 (pure_assign rfl) rfl ?_
    refine TL.nil ?_
    refine block_normal ?_
    refine loop_next (i + 1, v32) ⟨?_, ?_⟩ ⟨by omega, by omega, fun j a b => ?_⟩ (by dsimp only; omega)
    · repeat (first | exact Agree.nil | refine Agree.cons rfl ?_)
    · dsimp only; rw [takeP_snoc (clearP l key) i h0 (by omega), encP_snoc']; repeat (first | exact List.nil_sublist _ | exact List.Sublist.refl _ | apply List.Sublist.cons_cons | apply List.Sublist.cons)
    · rcases Int.lt_or_eq_of_le (show j ≤ i by omega) with h | h
      · exact h2 j a h
      · rw [h]; exact hc25.2
  · try dsimp only at hc25
    refine TC.exit ?_
    refine then_exit ?_
    refine loop_exit ?_
    refine block_here ?_
    refine then_normal ?_
    refine TC.seq ?_
    have hwh := while_at (clearP l key) key i h0 h1 h2 (fun a b => hc25 ⟨a, b⟩)
    refine TC.region ?_
    refine TL.run1 (pure_move rfl) rfl ?_
    refine TL.run1 (pure_move rfl) rfl ?_
    refine TL.run1 (pure_move rfl) rfl ?_
    refine TL.run1 (pure_build Ty.pl59 Ty.zero59 (.cons rfl rfl (.one rfl) rfl (.here (.nil _)) (.cons rfl rfl (.one rfl) rfl (.skip (.here (.nil _))) (.nil _)))) rfl ?_
    refine TL.run1 (pure_buildSlice (xs := [.tmp 38]) Ty.app31 (by decide) rfl rfl (.cons rfl (.agg _) rfl .nil)) rfl ?_
    refine TL.append Ty.app31 rfl rfl (by intro _; repeat (first | exact UpdR.here _ | apply UpdR.there)) (by simp only [List.length_append, List.length_cons, List.length_nil]; omega) (by simp only [List.length_append, List.length_cons, List.length_nil]; omega) rfl (fun v40 hv40 => ?_)
    refine TL.run1 (pure_assign rfl) rfl ?_
    refine TL.nil' ?_
    refine TC.seq ?_
    have hdl : (encP (clearP l key)).length - i.toNat ≤ 1000000 := by omega
    refine TC.region ?_
    refine TL.run1 (pure_move rfl) rfl ?_
    refine TL.run1 (pure_move rfl) rfl ?_
    refine TL.run1 (pure_move rfl) rfl ?_
    refine TL.run1 (pure_slice (l := i.toNat) (h := (encP (clearP l key)).length) Ty.sl31 rfl (by show some _ = some _; rw [show ((i.toNat : Nat) : Int) = i by omega]) rfl (by omega) (by omega)) rfl ?_
    refine TL.append Ty.app31 rfl rfl (by intro _; repeat (first | exact UpdR.here _ | apply UpdR.there)) (by simp only [List.length_append, List.length_cons, List.length_nil, List.length_drop, List.length_take]; omega) (by simp only [List.length_append, List.length_cons, List.length_nil, List.length_drop, List.length_take]; omega) rfl (fun v45 hv45 => ?_)
    refine TL.run1 (pure_assign rfl) rfl ?_
    refine TL.nil' ?_
    refine TC.ret ?_
    have hres : encP ((clearP l key).take i.toNat) ++ [[D.v (.int .i64 key), D.v (.int .i64 value)]] ++ List.drop i.toNat (List.take (encP (clearP l key)).length (encP (clearP l key))) = encP (setP l key value) := by (unfold setP; rw [hwh.1, hwh.2, encP_append, List.take_of_length_le (Nat.le_refl _), encP_drop, List.append_assoc]; rfl)
    exact retF_row rfl (by repeat (first | exact List.Mem.head _ | apply List.Mem.tail)) (by decide) (show ∀ x ∈ encP ((clearP l key).take i.toNat) ++ [[D.v (.int .i64 key), D.v (.int .i64 value)]] ++ List.drop i.toNat (List.take (encP (clearP l key)).length (encP (clearP l key))), x.length = 2 from by rw [hres]; exact encP_each _) (show D.sl 2 (encP ((clearP l key).take i.toNat) ++ [[D.v (.int .i64 key), D.v (.int .i64 value)]] ++ List.drop i.toNat (List.take (encP (clearP l key)).length (encP (clearP l key)))) = _ from by rw [hres])
end Go.Ob
