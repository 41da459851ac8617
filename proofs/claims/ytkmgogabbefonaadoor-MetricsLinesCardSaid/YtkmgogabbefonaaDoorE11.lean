import Derived.Test.YtkmgogabbefonaaDoorE9
set_option linter.unusedVariables false
set_option linter.unusedSimpArgs false
namespace Go.Ob
open Go.Proofs
set_option maxRecDepth 100000 in
theorem height_spec (f : Fo) (hf : ¬ FBad f) : Fun Tryd.prog 26 [.agg [.v (.int .i64 f.face), .v (.int .i64 f.size), .v (.int .i64 f.raise), .v (.bool f.bold)]] (.tup [.v (.int .i64 (max (ascP f) 0)), .v (.int .i64 (max (desP f) 0))]) := by
  refine Fun.enter (n := 21) (rs := [.tmp 2, .tmp 3]) Tryd.func26 rfl Tryd.ntmps26 Tryd.results26 rfl (fun w F => ?_)
  unfold FBad at hf
  refine TC.seq ?_
  refine TC.region ?_
  refine TL.box rfl (.agg _) rfl (fun g1 => ?_)
  refine TL.run1 (pure_assign rfl) rfl ?_
  refine TL.run1 (pure_assign rfl) rfl ?_
  refine TL.nil' ?_
  refine TC.seq ?_
  refine TC.region ?_
  first | refine TL.run1 (pure_fieldAddr Ty.f23_1 rfl (.succ (.zero _)) (List.cons_ne_nil _ _)) rfl ?_ | refine TL.run1 (pure_fieldAddr_own Ty.f23_1 rfl) rfl ?_
  first | refine TL.run1 (pure_load1 Ty.one3 rfl) rfl ?_ | refine TL.run1 (pure_load1_own Ty.one3 rfl (by repeat (first | exact List.Mem.head _ | apply List.Mem.tail)) (by repeat (first | exact DropR.zero _ | apply DropR.succ))) rfl ?_
  refine TL.run1 (pure_mul rfl rfl (mkI64 (by omega) (by omega))) rfl ?_
  refine TL.run1 (pure_assign rfl) rfl ?_
  refine TL.nil' ?_
  refine TC.seq ?_
  refine TC.draw Ty.follows (by kernel_rfl) ?_
  refine TD.run1 (pure_move rfl) rfl ?_
  refine TD.run1 (pure_mul rfl rfl (mkI64 (by omega) (by omega))) rfl ?_
  refine TD.run1 (pure_quo rfl rfl (by omega) (by omega) (by omega)) rfl ?_
  first | refine TD.run1 (pure_fieldAddr Ty.f23_2 rfl (.succ (.succ (.zero _))) (List.cons_ne_nil _ _)) rfl ?_ | refine TD.run1 (pure_fieldAddr_own Ty.f23_2 rfl) rfl ?_
  first | refine TD.run1 (pure_load1 Ty.one3 rfl) rfl ?_ | refine TD.run1 (pure_load1_own Ty.one3 rfl (by repeat (first | exact List.Mem.head _ | apply List.Mem.tail)) (by repeat (first | exact DropR.zero _ | apply DropR.succ))) rfl ?_
  refine TD.run1 (pure_add rfl rfl (mkI64 (by omega) (by omega))) rfl ?_
  refine TD.run1 (pure_max rfl rfl) rfl ?_
  refine TD.run1 (pure_move rfl) rfl ?_
  refine TD.run1 (pure_quo rfl rfl (by omega) (by omega) (by omega)) rfl ?_
  first | refine TD.run1 (pure_fieldAddr Ty.f23_2 rfl (.succ (.succ (.zero _))) (List.cons_ne_nil _ _)) rfl ?_ | refine TD.run1 (pure_fieldAddr_own Ty.f23_2 rfl) rfl ?_
  first | refine TD.run1 (pure_load1 Ty.one3 rfl) rfl ?_ | refine TD.run1 (pure_load1_own Ty.one3 rfl (by repeat (first | exact List.Mem.head _ | apply List.Mem.tail)) (by repeat (first | exact DropR.zero _ | apply DropR.succ))) rfl ?_
  refine TD.run1 (pure_sub rfl rfl (mkI64 (by omega) (by omega))) rfl ?_
  refine TD.run1 (pure_max rfl rfl) rfl ?_
  refine TD.run1 (pure_assign rfl) rfl ?_
  refine TD.run1 (pure_assign rfl) rfl ?_
  refine TD.nil' ?_
  refine TC.ret ?_
  exact ret2 (.inl rfl) rfl rfl rfl
set_option maxRecDepth 100000 in
theorem MetricsLines_spec (l : List Fo) : Fun Tryd.prog 9 [.sl 4 (encFs l)] (.v (.bool true)) := by
  refine Fun.enter (n := 83) (rs := [.tmp 2]) Tryd.func9 rfl Tryd.ntmps9 Tryd.results9 rfl (fun w F => ?_)
  have hkl := encFs_len l
  refine TC.seq ?_
  refine TC.region ?_
  refine TL.run1 (pure_assign rfl) rfl ?_
  refine TL.nil' ?_
  refine TC.seq ?_
  refine TC.regionCut [12, 13, 14, 15, 16, 17, 18] 18 ((l.length : Int) > 40) ?_ ?_
  · skip
    refine TL.run1 (pure_call (known_spec) .nil Tryd.call13) rfl ?_
    refine TL.run1 (pure_not rfl) rfl ?_
    refine TL.run1 (pure_move rfl) rfl ?_
    first | refine TL.splitP 14 rfl (fun hg14 => ?_) (fun hg14 => ?_) | refine TL.split 14 rfl (fun hg14 => ?_) (fun hg14 => ?_)
    · try dsimp only at hg14
      refine TL.passG rfl rfl rfl rfl ?_
      refine TL.passG rfl rfl rfl rfl ?_
      refine TL.passG rfl rfl rfl rfl ?_
      refine TL.run1 (pure_pick_true rfl rfl) rfl ?_
      refine TL.cutEnd (by repeat (first | exact Same.refl _ _ | refine Same.put rfl ?_)) rfl ?_
      first | (simp only [decide_eq_true_eq, Bool.false_eq_true, false_iff, true_iff, iff_true, iff_false, Bool.not_eq_true]; omega) | (simp_all; done) | (simp_all; omega) | grind
    · try dsimp only at hg14
      refine TL.runG rfl rfl (pure_move rfl) rfl ?_
      first | refine TL.runG rfl rfl (pure_len Ty.sl47 rfl) rfl ?_ | refine TL.runG rfl rfl (pure_len_row Ty.sl47 rfl (by repeat (first | exact List.Mem.head _ | apply List.Mem.tail))) rfl ?_ | refine TL.runG rfl rfl (pure_len_nil Ty.sl47 rfl) rfl ?_
      refine TL.runG rfl rfl (pure_gtr rfl rfl) rfl ?_
      refine TL.run1 (pure_pick_false rfl rfl) rfl ?_
      refine TL.cutEnd (by repeat (first | exact Same.refl _ _ | refine Same.put rfl ?_)) rfl ?_
      first | (simp only [decide_eq_true_eq, Bool.false_eq_true, false_iff, true_iff, iff_true, iff_false, Bool.not_eq_true]; omega) | (simp_all; done) | (simp_all; omega) | grind
  first | refine TC.condD rfl (fun hc18 => ?_) (fun hc18 => ?_) | refine TC.condN rfl (fun hc18 => ?_) (fun hc18 => ?_) | refine TC.cond rfl (fun hc18 => ?_) (fun hc18 => ?_)
  · try dsimp only at hc18
    refine TC.seq ?_
    refine TC.region ?_
    refine TL.run1 (pure_call (known_spec) .nil Tryd.call13) rfl ?_
    refine TL.run1 (pure_assign rfl) rfl ?_
    refine TL.nil' ?_
    refine TC.ret ?_
    refine then_ret ?_
    exact ret_bool rfl (by simp)
  · try dsimp only at hc18
    refine TC.skip' ?_
    refine TC.seq ?_
    refine TC.region ?_
    refine TL.run1 (pure_move rfl) rfl ?_
    refine TL.run1 (pure_call (Line_spec l (by omega)) (.cons rfl .nil) Tryd.call25) rfl ?_
    refine TL.run1 (pure_move rfl) rfl ?_
    refine TL.run1 (pure_extract rfl rfl) rfl ?_
    refine TL.run1 (pure_extract rfl rfl) rfl ?_
    refine TL.run1 (pure_extract rfl rfl) rfl ?_
    refine TL.run1 (pure_assign rfl) rfl ?_
    refine TL.run1 (pure_assign rfl) rfl ?_
    refine TL.run1 (pure_assign rfl) rfl ?_
    refine TL.nil' ?_
    refine TC.seq ?_
    refine TC.region ?_
    refine TL.run1 (pure_assign rfl) rfl ?_
    refine TL.run1 (pure_assign rfl) rfl ?_
    refine TL.run1 (pure_assign rfl) rfl ?_
    refine TL.nil' ?_
    refine TC.seq ?_
    refine TC.seq ?_
    refine TC.region ?_
    refine TL.run1 (pure_move rfl) rfl ?_
    first | refine TL.run1 (pure_len Ty.sl47 rfl) rfl ?_ | refine TL.run1 (pure_len_row Ty.sl47 rfl (by repeat (first | exact List.Mem.head _ | apply List.Mem.tail))) rfl ?_ | refine TL.run1 (pure_len_nil Ty.sl47 rfl) rfl ?_
    refine TL.run1 (pure_eql rfl rfl) rfl ?_
    refine TL.nil' ?_
    first | refine TC.condD rfl (fun hc28 => ?_) (fun hc28 => ?_) | refine TC.condN rfl (fun hc28 => ?_) (fun hc28 => ?_) | refine TC.cond rfl (fun hc28 => ?_) (fun hc28 => ?_)
    · try dsimp only at hc28
      refine TC.region ?_
      refine TL.run1 (pure_assign rfl) rfl ?_
      refine TL.nil' ?_
      refine TC.seq ?_
      refine TC.seq ?_
      refine TC.region ?_
      refine TL.run1 (pure_assign rfl) rfl ?_
      refine TL.nil' ?_
      refine TC.block ?_
      refine TC.loopX (X := Nat × Int × Int × Int) (fun (i, want, x, y) => [(0, .sl 4 (encFs l)), (3, .v (.int .i64 (lineA l))), (4, .v (.int .i64 (lineD l))), (5, .v (.int .i64 (lineE l))), (6, .v (.int .i64 want)), (7, .v (.int .i64 x)), (8, .v (.int .i64 y)), (9, .v (.int .i64 i))]) (fun (i, want, x, y) => []) (fun (i, want, x, y) => (i ≤ l.length) ∧ ((want = 0 ∧ ¬ l.length = 0 ∧ (∀ j : Nat, j < i → ¬ FBad (fAt l j)) ∧ x = mxA l i ∧ y = mxD l i) ∨ (want ≠ 0 ∧ want = lineE l))) (fun (i, want, x, y) => l.length - i) (0, (if l.length = 0 then 11 else 0), 0, 0) ⟨by (try dsimp only); (first | rw [if_pos (show l.length = 0 by omega)] | rw [if_neg (show ¬ l.length = 0 by omega)]); repeat (first | exact Agree.nil | refine Agree.cons rfl ?_), by skip; repeat (first | exact List.nil_sublist _ | exact List.Sublist.refl _ | apply List.Sublist.cons_cons | apply List.Sublist.cons)⟩ ?_ ?_
      · skip
        refine ⟨Nat.zero_le _, ?_⟩
        by_cases h : l.length = 0
        · exact .inr ⟨by (try dsimp only); rw [if_pos h]; decide, by (try dsimp only); rw [if_pos h, lineE_nil h]⟩
        · exact .inl ⟨by (try dsimp only); rw [if_neg h], h, fun j hj => by omega, rfl, rfl⟩
      rintro ⟨i, want, x, y⟩
      rintro ⟨h1, h2⟩
      show TC _ _ _ (Env.of [(0, .sl 4 (encFs l)), (3, .v (.int .i64 (lineA l))), (4, .v (.int .i64 (lineD l))), (5, .v (.int .i64 (lineE l))), (6, .v (.int .i64 want)), (7, .v (.int .i64 x)), (8, .v (.int .i64 y)), (9, .v (.int .i64 i))]) []
      refine TC.seq ?_
      refine TC.seq ?_
      refine TC.region ?_
      refine TL.run1 (pure_move rfl) rfl ?_
      refine TL.run1 (pure_move rfl) rfl ?_
      first | refine TL.run1 (pure_len Ty.sl47 rfl) rfl ?_ | refine TL.run1 (pure_len_row Ty.sl47 rfl (by repeat (first | exact List.Mem.head _ | apply List.Mem.tail))) rfl ?_ | refine TL.run1 (pure_len_nil Ty.sl47 rfl) rfl ?_
      refine TL.run1 (pure_lss rfl rfl) rfl ?_
      refine TL.nil' ?_
      first | refine TC.condD rfl (fun hc32 => ?_) (fun hc32 => ?_) | refine TC.condN rfl (fun hc32 => ?_) (fun hc32 => ?_) | refine TC.cond rfl (fun hc32 => ?_) (fun hc32 => ?_)
      · try dsimp only at hc32
        refine TC.skip' ?_
        refine TC.seq ?_
        refine TC.block ?_
        refine TC.seq ?_
        refine TC.seq ?_
        refine TC.region ?_
        refine TL.run1 (pure_move rfl) rfl ?_
        refine TL.run1 (pure_eql rfl rfl) rfl ?_
        refine TL.nil' ?_
        first | refine TC.condD rfl (fun hc36 => ?_) (fun hc36 => ?_) | refine TC.condN rfl (fun hc36 => ?_) (fun hc36 => ?_) | refine TC.cond rfl (fun hc36 => ?_) (fun hc36 => ?_)
        · try dsimp only at hc36
          obtain ⟨_, hne, hall, hxe, hye⟩ := h2.resolve_right (fun h => h.1 hc36)
          subst hxe hye
          have hmr := mxA_range l i hall
          have hrow := encFs_get l i (by omega) (by omega)
          refine TC.region ?_
          refine TL.run1 (pure_move rfl) rfl ?_
          refine TL.run1 (pure_move rfl) rfl ?_
          refine TL.run1 (pure_indexAddr Ty.sl47 rfl rfl (by omega) (by assumption) (List.cons_ne_nil _ _)) rfl ?_
          first | refine TL.run1 (pure_load Ty.agg23 rfl (.succ (.succ (.succ (.succ (.zero _)))))) rfl ?_ | refine TL.run1 (pure_load_own Ty.agg23 rfl (by repeat (first | exact List.Mem.head _ | apply List.Mem.tail)) (by repeat (first | exact DropR.zero _ | apply DropR.succ)) (.succ (.succ (.succ (.succ (.zero _)))))) rfl ?_
          refine TL.run1 (pure_call (check_spec (fAt l i)) (.cons rfl .nil) Tryd.call16) rfl ?_
          refine TL.run1 (pure_assign rfl) rfl ?_
          refine TL.nil' ?_
          refine TC.seq ?_
          refine TC.region ?_
          refine TL.run1 (pure_move rfl) rfl ?_
          refine TL.run1 (pure_eql rfl rfl) rfl ?_
          refine TL.nil' ?_
          first | refine TC.condD rfl (fun hc43 => ?_) (fun hc43 => ?_) | refine TC.condN rfl (fun hc43 => ?_) (fun hc43 => ?_) | refine TC.cond rfl (fun hc43 => ?_) (fun hc43 => ?_)
          · try dsimp only at hc43
            have hnb : ¬ FBad (fAt l i) := errF_not (fun h => h hc43)
            have hfq := hnb
            unfold FBad at hfq
            rw [hc43]
            refine TC.seq ?_
            have hrow := encFs_get l i (by omega) (by omega)
            refine TC.region ?_
            refine TL.run1 (pure_move rfl) rfl ?_
            refine TL.run1 (pure_move rfl) rfl ?_
            refine TL.run1 (pure_indexAddr Ty.sl47 rfl rfl (by omega) (by assumption) (List.cons_ne_nil _ _)) rfl ?_
            first | refine TL.run1 (pure_load Ty.agg23 rfl (.succ (.succ (.succ (.succ (.zero _)))))) rfl ?_ | refine TL.run1 (pure_load_own Ty.agg23 rfl (by repeat (first | exact List.Mem.head _ | apply List.Mem.tail)) (by repeat (first | exact DropR.zero _ | apply DropR.succ)) (.succ (.succ (.succ (.succ (.zero _)))))) rfl ?_
            refine TL.run1 (pure_call (height_spec (fAt l i) hnb) (.cons rfl .nil) Tryd.call26) rfl ?_
            refine TL.run1 (pure_move rfl) rfl ?_
            refine TL.run1 (pure_extract rfl rfl) rfl ?_
            refine TL.run1 (pure_extract rfl rfl) rfl ?_
            refine TL.run1 (pure_assign rfl) rfl ?_
            refine TL.run1 (pure_assign rfl) rfl ?_
            refine TL.nil' ?_
            refine TC.region ?_
            refine TL.run1 (pure_move rfl) rfl ?_
            refine TL.run1 (pure_move rfl) rfl ?_
            refine TL.run1 (pure_max rfl rfl) rfl ?_
            refine TL.run1 (pure_move rfl) rfl ?_
            refine TL.run1 (pure_move rfl) rfl ?_
            refine TL.run1 (pure_max rfl rfl) rfl ?_
            refine TL.run1 (pure_assign rfl) rfl ?_
            refine TL.run1 (pure_assign rfl) rfl ?_
            refine TL.nil ?_
            refine block_normal ?_
            refine then_normal ?_
            refine TC.region ?_
            refine TL.run1 (pure_move rfl) rfl ?_
            refine TL.run1 (pure_add rfl rfl (mkI64 (by omega) (by omega))) rfl ?_
            refine TL.run1 (pure_assign rfl) rfl ?_
            refine TL.nil ?_
            have hx : max (mxA l i) (max (ascP (fAt l i)) 0) = mxA l (i + 1) := by (rw [mxA]; omega)
            have hy : max (mxD l i) (max (desP (fAt l i)) 0) = mxD l (i + 1) := by (rw [mxD]; omega)
            refine loop_next (i + 1, 0, mxA l (i + 1), mxD l (i + 1)) ⟨by (dsimp only; rw [← hx, ← hy, show (((i + 1 : Nat)) : Int) = (i : Int) + 1 by omega]; repeat (first | exact Agree.nil | refine Agree.cons rfl ?_)), by repeat (first | exact List.nil_sublist _ | exact List.Sublist.refl _ | apply List.Sublist.cons_cons | apply List.Sublist.cons)⟩ ⟨by omega, .inl ⟨rfl, hne, fun j h => by rcases Nat.lt_or_eq_of_le (Nat.le_of_lt_succ h) with h | h; exact hall j h; rw [h]; exact hnb, rfl, rfl⟩⟩ (by dsimp only; omega)
          · try dsimp only at hc43
            have hbb : FBad (fAt l i) := errF_of hc43
            refine TC.skip ?_
            refine block_normal ?_
            refine then_normal ?_
            refine TC.region ?_
            refine TL.run1 (pure_move rfl) rfl ?_
            refine TL.run1 (pure_add rfl rfl (mkI64 (by omega) (by omega))) rfl ?_
            refine TL.run1 (pure_assign rfl) rfl ?_
            refine TL.nil ?_
            refine loop_next (i + 1, errF (fAt l i), mxA l i, mxD l i) ⟨by (dsimp only; rw [show (((i + 1 : Nat)) : Int) = (i : Int) + 1 by omega]; repeat (first | exact Agree.nil | refine Agree.cons rfl ?_)), by repeat (first | exact List.nil_sublist _ | exact List.Sublist.refl _ | apply List.Sublist.cons_cons | apply List.Sublist.cons)⟩ ⟨by omega, .inr ⟨hc43, by rw [errF_bad hbb, lineE_bad (fAt_mem l i (by omega) (by omega)) hbb]⟩⟩ (by dsimp only; omega)
        · try dsimp only at hc36
          refine TC.skip' ?_
          refine TC.seq ?_
          refine TC.region ?_
          refine TL.run1 (pure_move rfl) rfl ?_
          refine TL.run1 (pure_eql rfl rfl) rfl ?_
          refine TL.nil' ?_
          first | refine TC.condD rfl (fun hc43 => ?_) (fun hc43 => ?_) | refine TC.condN rfl (fun hc43 => ?_) (fun hc43 => ?_) | refine TC.cond rfl (fun hc43 => ?_) (fun hc43 => ?_)
          · try dsimp only at hc43
            exact absurd hc43 hc36
          · try dsimp only at hc43
            refine TC.skip ?_
            refine block_normal ?_
            refine then_normal ?_
            refine TC.region ?_
            refine TL.run1 (pure_move rfl) rfl ?_
            refine TL.run1 (pure_add rfl rfl (mkI64 (by omega) (by omega))) rfl ?_
            refine TL.run1 (pure_assign rfl) rfl ?_
            refine TL.nil ?_
            refine loop_next (i + 1, want, x, y) ⟨by (dsimp only; rw [show (((i + 1 : Nat)) : Int) = (i : Int) + 1 by omega]; repeat (first | exact Agree.nil | refine Agree.cons rfl ?_)), by repeat (first | exact List.nil_sublist _ | exact List.Sublist.refl _ | apply List.Sublist.cons_cons | apply List.Sublist.cons)⟩ ⟨by omega, .inr (h2.resolve_left (fun h => hc36 h.1))⟩ (by dsimp only; omega)
      · try dsimp only at hc32
        refine TC.exit ?_
        refine then_exit ?_
        refine loop_exit ?_
        refine block_here ?_
        refine then_normal ?_
        refine TC.seq ?_
        refine TC.seq ?_
        have hil : i = l.length := by omega
        refine TC.region ?_
        refine TL.run1 (pure_move rfl) rfl ?_
        refine TL.run1 (pure_neq rfl rfl) rfl ?_
        refine TL.nil' ?_
        first | refine TC.condD rfl (fun hc59 => ?_) (fun hc59 => ?_) | refine TC.condN rfl (fun hc59 => ?_) (fun hc59 => ?_) | refine TC.cond rfl (fun hc59 => ?_) (fun hc59 => ?_)
        · try dsimp only at hc59
          obtain ⟨_, hwe⟩ := h2.resolve_left (fun h => hc59 h.1)
          have hA : lineA l = 0 := by unfold lineA; rw [if_neg (by rw [← hwe]; exact hc59)]
          have hD : lineD l = 0 := by unfold lineD; rw [if_neg (by rw [← hwe]; exact hc59)]
          rw [hA, hD, ← hwe]
          refine TC.regionCut [60, 61, 62, 63, 64, 65, 66, 67, 68, 69, 70, 2] 2 (True) ?_ ?_
          · skip
            refine TL.run1 (pure_move rfl) rfl ?_
            refine TL.run1 (pure_eql rfl rfl) rfl ?_
            refine TL.run1 (pure_move rfl) rfl ?_
            first | refine TL.splitP 62 rfl (fun hg62 => ?_) (fun hg62 => ?_) | refine TL.split 62 rfl (fun hg62 => ?_) (fun hg62 => ?_)
            · try dsimp only at hg62
              refine TL.runG rfl rfl (pure_move rfl) rfl ?_
              refine TL.runG rfl rfl (pure_eql rfl rfl) rfl ?_
              refine TL.run1 (pure_pick_true rfl rfl) rfl ?_
              refine TL.run1 (pure_move rfl) rfl ?_
              first | refine TL.splitP 66 rfl (fun hg66 => ?_) (fun hg66 => ?_) | refine TL.split 66 rfl (fun hg66 => ?_) (fun hg66 => ?_)
              · try dsimp only at hg66
                refine TL.runG rfl rfl (pure_move rfl) rfl ?_
                refine TL.runG rfl rfl (pure_move rfl) rfl ?_
                refine TL.runG rfl rfl (pure_eql rfl rfl) rfl ?_
                refine TL.run1 (pure_pick_true rfl rfl) rfl ?_
                refine TL.run1 (pure_assign rfl) rfl ?_
                refine TL.cutEnd (by repeat (first | exact Same.refl _ _ | refine Same.put rfl ?_)) rfl ?_
                first | rfl | (simp_all [encI, encT]; done) | (simp_all; omega) | grind
              · try dsimp only at hg66
                refine TL.passG rfl rfl rfl rfl ?_
                refine TL.passG rfl rfl rfl rfl ?_
                refine TL.passG rfl rfl rfl rfl ?_
                refine TL.run1 (pure_pick_false rfl rfl) rfl ?_
                refine TL.run1 (pure_assign rfl) rfl ?_
                refine TL.cutEnd (by repeat (first | exact Same.refl _ _ | refine Same.put rfl ?_)) rfl ?_
                first | rfl | (simp_all [encI, encT]; done) | (simp_all; omega) | grind
            · try dsimp only at hg62
              refine TL.passG rfl rfl rfl rfl ?_
              refine TL.passG rfl rfl rfl rfl ?_
              refine TL.run1 (pure_pick_false rfl rfl) rfl ?_
              refine TL.run1 (pure_move rfl) rfl ?_
              refine TL.passG rfl rfl rfl rfl ?_
              refine TL.passG rfl rfl rfl rfl ?_
              refine TL.passG rfl rfl rfl rfl ?_
              refine TL.run1 (pure_pick_false rfl rfl) rfl ?_
              refine TL.run1 (pure_assign rfl) rfl ?_
              refine TL.cutEnd (by repeat (first | exact Same.refl _ _ | refine Same.put rfl ?_)) rfl ?_
              first | rfl | (simp_all [encI, encT]; done) | (simp_all; omega) | grind
          refine TC.ret ?_
          refine then_ret ?_
          exact ret_bool rfl (by simp)
        · try dsimp only at hc59
          obtain ⟨_, hne, hall, hxe, hye⟩ := h2.resolve_right (fun h => hc59 h.1)
          have he := lineE_ok hne (fun j hj => hall j (by omega))
          have hA : lineA l = mxA l i := by unfold lineA; rw [if_pos he, hil]
          have hD : lineD l = mxD l i := by unfold lineD; rw [if_pos he, hil]
          rw [hA, hD, he, hxe, hye]
          refine TC.skip' ?_
          refine TC.regionCut [71, 72, 73, 74, 75, 76, 77, 78, 79, 80, 81, 82, 2] 2 (True) ?_ ?_
          · skip
            refine TL.run1 (pure_move rfl) rfl ?_
            refine TL.run1 (pure_move rfl) rfl ?_
            refine TL.run1 (pure_eql rfl rfl) rfl ?_
            refine TL.run1 (pure_move rfl) rfl ?_
            first | refine TL.splitP 74 rfl (fun hg74 => ?_) (fun hg74 => ?_) | refine TL.split 74 rfl (fun hg74 => ?_) (fun hg74 => ?_)
            · try dsimp only at hg74
              refine TL.runG rfl rfl (pure_move rfl) rfl ?_
              refine TL.runG rfl rfl (pure_move rfl) rfl ?_
              refine TL.runG rfl rfl (pure_eql rfl rfl) rfl ?_
              refine TL.run1 (pure_pick_true rfl rfl) rfl ?_
              refine TL.run1 (pure_move rfl) rfl ?_
              first | refine TL.splitP 79 rfl (fun hg79 => ?_) (fun hg79 => ?_) | refine TL.split 79 rfl (fun hg79 => ?_) (fun hg79 => ?_)
              · try dsimp only at hg79
                refine TL.runG rfl rfl (pure_move rfl) rfl ?_
                refine TL.runG rfl rfl (pure_eql rfl rfl) rfl ?_
                refine TL.run1 (pure_pick_true rfl rfl) rfl ?_
                refine TL.run1 (pure_assign rfl) rfl ?_
                refine TL.cutEnd (by repeat (first | exact Same.refl _ _ | refine Same.put rfl ?_)) rfl ?_
                first | rfl | (simp_all [encI, encT]; done) | (simp_all; omega) | grind
              · try dsimp only at hg79
                refine TL.passG rfl rfl rfl rfl ?_
                refine TL.passG rfl rfl rfl rfl ?_
                refine TL.run1 (pure_pick_false rfl rfl) rfl ?_
                refine TL.run1 (pure_assign rfl) rfl ?_
                refine TL.cutEnd (by repeat (first | exact Same.refl _ _ | refine Same.put rfl ?_)) rfl ?_
                first | rfl | (simp_all [encI, encT]; done) | (simp_all; omega) | grind
            · try dsimp only at hg74
              refine TL.passG rfl rfl rfl rfl ?_
              refine TL.passG rfl rfl rfl rfl ?_
              refine TL.passG rfl rfl rfl rfl ?_
              refine TL.run1 (pure_pick_false rfl rfl) rfl ?_
              refine TL.run1 (pure_move rfl) rfl ?_
              refine TL.passG rfl rfl rfl rfl ?_
              refine TL.passG rfl rfl rfl rfl ?_
              refine TL.run1 (pure_pick_false rfl rfl) rfl ?_
              refine TL.run1 (pure_assign rfl) rfl ?_
              refine TL.cutEnd (by repeat (first | exact Same.refl _ _ | refine Same.put rfl ?_)) rfl ?_
              first | rfl | (simp_all [encI, encT]; done) | (simp_all; omega) | grind
          refine TC.ret ?_
          exact ret_bool rfl (by simp)
    · try dsimp only at hc28
      refine TC.skip' ?_
      refine TC.seq ?_
      refine TC.seq ?_
      refine TC.region ?_
      refine TL.run1 (pure_assign rfl) rfl ?_
      refine TL.nil' ?_
      refine TC.block ?_
      refine TC.loopX (X := Nat × Int × Int × Int) (fun (i, want, x, y) => [(0, .sl 4 (encFs l)), (3, .v (.int .i64 (lineA l))), (4, .v (.int .i64 (lineD l))), (5, .v (.int .i64 (lineE l))), (6, .v (.int .i64 want)), (7, .v (.int .i64 x)), (8, .v (.int .i64 y)), (9, .v (.int .i64 i))]) (fun (i, want, x, y) => []) (fun (i, want, x, y) => (i ≤ l.length) ∧ ((want = 0 ∧ ¬ l.length = 0 ∧ (∀ j : Nat, j < i → ¬ FBad (fAt l j)) ∧ x = mxA l i ∧ y = mxD l i) ∨ (want ≠ 0 ∧ want = lineE l))) (fun (i, want, x, y) => l.length - i) (0, (if l.length = 0 then 11 else 0), 0, 0) ⟨by (try dsimp only); (first | rw [if_pos (show l.length = 0 by omega)] | rw [if_neg (show ¬ l.length = 0 by omega)]); repeat (first | exact Agree.nil | refine Agree.cons rfl ?_), by skip; repeat (first | exact List.nil_sublist _ | exact List.Sublist.refl _ | apply List.Sublist.cons_cons | apply List.Sublist.cons)⟩ ?_ ?_
      · skip
        refine ⟨Nat.zero_le _, ?_⟩
        by_cases h : l.length = 0
        · exact .inr ⟨by (try dsimp only); rw [if_pos h]; decide, by (try dsimp only); rw [if_pos h, lineE_nil h]⟩
        · exact .inl ⟨by (try dsimp only); rw [if_neg h], h, fun j hj => by omega, rfl, rfl⟩
      rintro ⟨i, want, x, y⟩
      rintro ⟨h1, h2⟩
      show TC _ _ _ (Env.of [(0, .sl 4 (encFs l)), (3, .v (.int .i64 (lineA l))), (4, .v (.int .i64 (lineD l))), (5, .v (.int .i64 (lineE l))), (6, .v (.int .i64 want)), (7, .v (.int .i64 x)), (8, .v (.int .i64 y)), (9, .v (.int .i64 i))]) []
      refine TC.seq ?_
      refine TC.seq ?_
      refine TC.region ?_
      refine TL.run1 (pure_move rfl) rfl ?_
      refine TL.run1 (pure_move rfl) rfl ?_
      first | refine TL.run1 (pure_len Ty.sl47 rfl) rfl ?_ | refine TL.run1 (pure_len_row Ty.sl47 rfl (by repeat (first | exact List.Mem.head _ | apply List.Mem.tail))) rfl ?_ | refine TL.run1 (pure_len_nil Ty.sl47 rfl) rfl ?_
      refine TL.run1 (pure_lss rfl rfl) rfl ?_
      refine TL.nil' ?_
      first | refine TC.condD rfl (fun hc32 => ?_) (fun hc32 => ?_) | refine TC.condN rfl (fun hc32 => ?_) (fun hc32 => ?_) | refine TC.cond rfl (fun hc32 => ?_) (fun hc32 => ?_)
      · try dsimp only at hc32
        refine TC.skip' ?_
        refine TC.seq ?_
        refine TC.block ?_
        refine TC.seq ?_
        refine TC.seq ?_
        refine TC.region ?_
        refine TL.run1 (pure_move rfl) rfl ?_
        refine TL.run1 (pure_eql rfl rfl) rfl ?_
        refine TL.nil' ?_
        first | refine TC.condD rfl (fun hc36 => ?_) (fun hc36 => ?_) | refine TC.condN rfl (fun hc36 => ?_) (fun hc36 => ?_) | refine TC.cond rfl (fun hc36 => ?_) (fun hc36 => ?_)
        · try dsimp only at hc36
          obtain ⟨_, hne, hall, hxe, hye⟩ := h2.resolve_right (fun h => h.1 hc36)
          subst hxe hye
          have hmr := mxA_range l i hall
          have hrow := encFs_get l i (by omega) (by omega)
          refine TC.region ?_
          refine TL.run1 (pure_move rfl) rfl ?_
          refine TL.run1 (pure_move rfl) rfl ?_
          refine TL.run1 (pure_indexAddr Ty.sl47 rfl rfl (by omega) (by assumption) (List.cons_ne_nil _ _)) rfl ?_
          first | refine TL.run1 (pure_load Ty.agg23 rfl (.succ (.succ (.succ (.succ (.zero _)))))) rfl ?_ | refine TL.run1 (pure_load_own Ty.agg23 rfl (by repeat (first | exact List.Mem.head _ | apply List.Mem.tail)) (by repeat (first | exact DropR.zero _ | apply DropR.succ)) (.succ (.succ (.succ (.succ (.zero _)))))) rfl ?_
          refine TL.run1 (pure_call (check_spec (fAt l i)) (.cons rfl .nil) Tryd.call16) rfl ?_
          refine TL.run1 (pure_assign rfl) rfl ?_
          refine TL.nil' ?_
          refine TC.seq ?_
          refine TC.region ?_
          refine TL.run1 (pure_move rfl) rfl ?_
          refine TL.run1 (pure_eql rfl rfl) rfl ?_
          refine TL.nil' ?_
          first | refine TC.condD rfl (fun hc43 => ?_) (fun hc43 => ?_) | refine TC.condN rfl (fun hc43 => ?_) (fun hc43 => ?_) | refine TC.cond rfl (fun hc43 => ?_) (fun hc43 => ?_)
          · try dsimp only at hc43
            have hnb : ¬ FBad (fAt l i) := errF_not (fun h => h hc43)
            have hfq := hnb
            unfold FBad at hfq
            rw [hc43]
            refine TC.seq ?_
            have hrow := encFs_get l i (by omega) (by omega)
            refine TC.region ?_
            refine TL.run1 (pure_move rfl) rfl ?_
            refine TL.run1 (pure_move rfl) rfl ?_
            refine TL.run1 (pure_indexAddr Ty.sl47 rfl rfl (by omega) (by assumption) (List.cons_ne_nil _ _)) rfl ?_
            first | refine TL.run1 (pure_load Ty.agg23 rfl (.succ (.succ (.succ (.succ (.zero _)))))) rfl ?_ | refine TL.run1 (pure_load_own Ty.agg23 rfl (by repeat (first | exact List.Mem.head _ | apply List.Mem.tail)) (by repeat (first | exact DropR.zero _ | apply DropR.succ)) (.succ (.succ (.succ (.succ (.zero _)))))) rfl ?_
            refine TL.run1 (pure_call (height_spec (fAt l i) hnb) (.cons rfl .nil) Tryd.call26) rfl ?_
            refine TL.run1 (pure_move rfl) rfl ?_
            refine TL.run1 (pure_extract rfl rfl) rfl ?_
            refine TL.run1 (pure_extract rfl rfl) rfl ?_
            refine TL.run1 (pure_assign rfl) rfl ?_
            refine TL.run1 (pure_assign rfl) rfl ?_
            refine TL.nil' ?_
            refine TC.region ?_
            refine TL.run1 (pure_move rfl) rfl ?_
            refine TL.run1 (pure_move rfl) rfl ?_
            refine TL.run1 (pure_max rfl rfl) rfl ?_
            refine TL.run1 (pure_move rfl) rfl ?_
            refine TL.run1 (pure_move rfl) rfl ?_
            refine TL.run1 (pure_max rfl rfl) rfl ?_
            refine TL.run1 (pure_assign rfl) rfl ?_
            refine TL.run1 (pure_assign rfl) rfl ?_
            refine TL.nil ?_
            refine block_normal ?_
            refine then_normal ?_
            refine TC.region ?_
            refine TL.run1 (pure_move rfl) rfl ?_
            refine TL.run1 (pure_add rfl rfl (mkI64 (by omega) (by omega))) rfl ?_
            refine TL.run1 (pure_assign rfl) rfl ?_
            refine TL.nil ?_
            have hx : max (mxA l i) (max (ascP (fAt l i)) 0) = mxA l (i + 1) := by (rw [mxA]; omega)
            have hy : max (mxD l i) (max (desP (fAt l i)) 0) = mxD l (i + 1) := by (rw [mxD]; omega)
            refine loop_next (i + 1, 0, mxA l (i + 1), mxD l (i + 1)) ⟨by (dsimp only; rw [← hx, ← hy, show (((i + 1 : Nat)) : Int) = (i : Int) + 1 by omega]; repeat (first | exact Agree.nil | refine Agree.cons rfl ?_)), by repeat (first | exact List.nil_sublist _ | exact List.Sublist.refl _ | apply List.Sublist.cons_cons | apply List.Sublist.cons)⟩ ⟨by omega, .inl ⟨rfl, hne, fun j h => by rcases Nat.lt_or_eq_of_le (Nat.le_of_lt_succ h) with h | h; exact hall j h; rw [h]; exact hnb, rfl, rfl⟩⟩ (by dsimp only; omega)
          · try dsimp only at hc43
            have hbb : FBad (fAt l i) := errF_of hc43
            refine TC.skip ?_
            refine block_normal ?_
            refine then_normal ?_
            refine TC.region ?_
            refine TL.run1 (pure_move rfl) rfl ?_
            refine TL.run1 (pure_add rfl rfl (mkI64 (by omega) (by omega))) rfl ?_
            refine TL.run1 (pure_assign rfl) rfl ?_
            refine TL.nil ?_
            refine loop_next (i + 1, errF (fAt l i), mxA l i, mxD l i) ⟨by (dsimp only; rw [show (((i + 1 : Nat)) : Int) = (i : Int) + 1 by omega]; repeat (first | exact Agree.nil | refine Agree.cons rfl ?_)), by repeat (first | exact List.nil_sublist _ | exact List.Sublist.refl _ | apply List.Sublist.cons_cons | apply List.Sublist.cons)⟩ ⟨by omega, .inr ⟨hc43, by rw [errF_bad hbb, lineE_bad (fAt_mem l i (by omega) (by omega)) hbb]⟩⟩ (by dsimp only; omega)
        · try dsimp only at hc36
          refine TC.skip' ?_
          refine TC.seq ?_
          refine TC.region ?_
          refine TL.run1 (pure_move rfl) rfl ?_
          refine TL.run1 (pure_eql rfl rfl) rfl ?_
          refine TL.nil' ?_
          first | refine TC.condD rfl (fun hc43 => ?_) (fun hc43 => ?_) | refine TC.condN rfl (fun hc43 => ?_) (fun hc43 => ?_) | refine TC.cond rfl (fun hc43 => ?_) (fun hc43 => ?_)
          · try dsimp only at hc43
            exact absurd hc43 hc36
          · try dsimp only at hc43
            refine TC.skip ?_
            refine block_normal ?_
            refine then_normal ?_
            refine TC.region ?_
            refine TL.run1 (pure_move rfl) rfl ?_
            refine TL.run1 (pure_add rfl rfl (mkI64 (by omega) (by omega))) rfl ?_
            refine TL.run1 (pure_assign rfl) rfl ?_
            refine TL.nil ?_
            refine loop_next (i + 1, want, x, y) ⟨by (dsimp only; rw [show (((i + 1 : Nat)) : Int) = (i : Int) + 1 by omega]; repeat (first | exact Agree.nil | refine Agree.cons rfl ?_)), by repeat (first | exact List.nil_sublist _ | exact List.Sublist.refl _ | apply List.Sublist.cons_cons | apply List.Sublist.cons)⟩ ⟨by omega, .inr (h2.resolve_left (fun h => hc36 h.1))⟩ (by dsimp only; omega)
      · try dsimp only at hc32
        refine TC.exit ?_
        refine then_exit ?_
        refine loop_exit ?_
        refine block_here ?_
        refine then_normal ?_
        refine TC.seq ?_
        refine TC.seq ?_
        have hil : i = l.length := by omega
        refine TC.region ?_
        refine TL.run1 (pure_move rfl) rfl ?_
        refine TL.run1 (pure_neq rfl rfl) rfl ?_
        refine TL.nil' ?_
        first | refine TC.condD rfl (fun hc59 => ?_) (fun hc59 => ?_) | refine TC.condN rfl (fun hc59 => ?_) (fun hc59 => ?_) | refine TC.cond rfl (fun hc59 => ?_) (fun hc59 => ?_)
        · try dsimp only at hc59
          obtain ⟨_, hwe⟩ := h2.resolve_left (fun h => hc59 h.1)
          have hA : lineA l = 0 := by unfold lineA; rw [if_neg (by rw [← hwe]; exact hc59)]
          have hD : lineD l = 0 := by unfold lineD; rw [if_neg (by rw [← hwe]; exact hc59)]
          rw [hA, hD, ← hwe]
          refine TC.regionCut [60, 61, 62, 63, 64, 65, 66, 67, 68, 69, 70, 2] 2 (True) ?_ ?_
          · skip
            refine TL.run1 (pure_move rfl) rfl ?_
            refine TL.run1 (pure_eql rfl rfl) rfl ?_
            refine TL.run1 (pure_move rfl) rfl ?_
            first | refine TL.splitP 62 rfl (fun hg62 => ?_) (fun hg62 => ?_) | refine TL.split 62 rfl (fun hg62 => ?_) (fun hg62 => ?_)
            · try dsimp only at hg62
              refine TL.runG rfl rfl (pure_move rfl) rfl ?_
              refine TL.runG rfl rfl (pure_eql rfl rfl) rfl ?_
              refine TL.run1 (pure_pick_true rfl rfl) rfl ?_
              refine TL.run1 (pure_move rfl) rfl ?_
              first | refine TL.splitP 66 rfl (fun hg66 => ?_) (fun hg66 => ?_) | refine TL.split 66 rfl (fun hg66 => ?_) (fun hg66 => ?_)
              · try dsimp only at hg66
                refine TL.runG rfl rfl (pure_move rfl) rfl ?_
                refine TL.runG rfl rfl (pure_move rfl) rfl ?_
                refine TL.runG rfl rfl (pure_eql rfl rfl) rfl ?_
                refine TL.run1 (pure_pick_true rfl rfl) rfl ?_
                refine TL.run1 (pure_assign rfl) rfl ?_
                refine TL.cutEnd (by repeat (first | exact Same.refl _ _ | refine Same.put rfl ?_)) rfl ?_
                first | rfl | (simp_all [encI, encT]; done) | (simp_all; omega) | grind
              · try dsimp only at hg66
                refine TL.passG rfl rfl rfl rfl ?_
                refine TL.passG rfl rfl rfl rfl ?_
                refine TL.passG rfl rfl rfl rfl ?_
                refine TL.run1 (pure_pick_false rfl rfl) rfl ?_
                refine TL.run1 (pure_assign rfl) rfl ?_
                refine TL.cutEnd (by repeat (first | exact Same.refl _ _ | refine Same.put rfl ?_)) rfl ?_
                first | rfl | (simp_all [encI, encT]; done) | (simp_all; omega) | grind
            · try dsimp only at hg62
              refine TL.passG rfl rfl rfl rfl ?_
              refine TL.passG rfl rfl rfl rfl ?_
              refine TL.run1 (pure_pick_false rfl rfl) rfl ?_
              refine TL.run1 (pure_move rfl) rfl ?_
              refine TL.passG rfl rfl rfl rfl ?_
              refine TL.passG rfl rfl rfl rfl ?_
              refine TL.passG rfl rfl rfl rfl ?_
              refine TL.run1 (pure_pick_false rfl rfl) rfl ?_
              refine TL.run1 (pure_assign rfl) rfl ?_
              refine TL.cutEnd (by repeat (first | exact Same.refl _ _ | refine Same.put rfl ?_)) rfl ?_
              first | rfl | (simp_all [encI, encT]; done) | (simp_all; omega) | grind
          refine TC.ret ?_
          refine then_ret ?_
          exact ret_bool rfl (by simp)
        · try dsimp only at hc59
          obtain ⟨_, hne, hall, hxe, hye⟩ := h2.resolve_right (fun h => hc59 h.1)
          have he := lineE_ok hne (fun j hj => hall j (by omega))
          have hA : lineA l = mxA l i := by unfold lineA; rw [if_pos he, hil]
          have hD : lineD l = mxD l i := by unfold lineD; rw [if_pos he, hil]
          rw [hA, hD, he, hxe, hye]
          refine TC.skip' ?_
          refine TC.regionCut [71, 72, 73, 74, 75, 76, 77, 78, 79, 80, 81, 82, 2] 2 (True) ?_ ?_
          · skip
            refine TL.run1 (pure_move rfl) rfl ?_
            refine TL.run1 (pure_move rfl) rfl ?_
            refine TL.run1 (pure_eql rfl rfl) rfl ?_
            refine TL.run1 (pure_move rfl) rfl ?_
            first | refine TL.splitP 74 rfl (fun hg74 => ?_) (fun hg74 => ?_) | refine TL.split 74 rfl (fun hg74 => ?_) (fun hg74 => ?_)
            · try dsimp only at hg74
              refine TL.runG rfl rfl (pure_move rfl) rfl ?_
              refine TL.runG rfl rfl (pure_move rfl) rfl ?_
              refine TL.runG rfl rfl (pure_eql rfl rfl) rfl ?_
              refine TL.run1 (pure_pick_true rfl rfl) rfl ?_
              refine TL.run1 (pure_move rfl) rfl ?_
              first | refine TL.splitP 79 rfl (fun hg79 => ?_) (fun hg79 => ?_) | refine TL.split 79 rfl (fun hg79 => ?_) (fun hg79 => ?_)
              · try dsimp only at hg79
                refine TL.runG rfl rfl (pure_move rfl) rfl ?_
                refine TL.runG rfl rfl (pure_eql rfl rfl) rfl ?_
                refine TL.run1 (pure_pick_true rfl rfl) rfl ?_
                refine TL.run1 (pure_assign rfl) rfl ?_
                refine TL.cutEnd (by repeat (first | exact Same.refl _ _ | refine Same.put rfl ?_)) rfl ?_
                first | rfl | (simp_all [encI, encT]; done) | (simp_all; omega) | grind
              · try dsimp only at hg79
                refine TL.passG rfl rfl rfl rfl ?_
                refine TL.passG rfl rfl rfl rfl ?_
                refine TL.run1 (pure_pick_false rfl rfl) rfl ?_
                refine TL.run1 (pure_assign rfl) rfl ?_
                refine TL.cutEnd (by repeat (first | exact Same.refl _ _ | refine Same.put rfl ?_)) rfl ?_
                first | rfl | (simp_all [encI, encT]; done) | (simp_all; omega) | grind
            · try dsimp only at hg74
              refine TL.passG rfl rfl rfl rfl ?_
              refine TL.passG rfl rfl rfl rfl ?_
              refine TL.passG rfl rfl rfl rfl ?_
              refine TL.run1 (pure_pick_false rfl rfl) rfl ?_
              refine TL.run1 (pure_move rfl) rfl ?_
              refine TL.passG rfl rfl rfl rfl ?_
              refine TL.passG rfl rfl rfl rfl ?_
              refine TL.run1 (pure_pick_false rfl rfl) rfl ?_
              refine TL.run1 (pure_assign rfl) rfl ?_
              refine TL.cutEnd (by repeat (first | exact Same.refl _ _ | refine Same.put rfl ?_)) rfl ?_
              first | rfl | (simp_all [encI, encT]; done) | (simp_all; omega) | grind
          refine TC.ret ?_
          exact ret_bool rfl (by simp)
end Go.Ob
