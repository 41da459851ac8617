import Derived.Test.YtlhjcleejolbiaaW2
set_option linter.unusedVariables false
set_option linter.unusedSimpArgs false
namespace Go.Ob
open Go.Proofs
set_option maxRecDepth 100000 in
theorem At1_spec (a b c : Int) : Fun Try.prog 43 [.agg [.v (.int .i64 a), .v (.int .i64 b)], .at_ [.v (.int .i64 c)]] (.v (.bool (decide (a ≤ c ∧ c < b)))) := by
  refine Fun.enter (n := 14) (rs := [.tmp 3]) Try.func43 rfl Try.ntmps43 Try.results43 rfl (fun w F => ?_)
  refine TC.seq ?_
  refine TC.region ?_
  refine TL.box rfl (.agg _) rfl (fun g2 => ?_)
  refine TL.run1 (pure_assign rfl) rfl ?_
  refine TL.nil' ?_
  refine TC.regionCut [4, 5, 6, 7, 8, 9, 10, 11, 12, 13, 3] 3 (a ≤ c ∧ c < b) ?_ ?_
  · skip
    first | refine TL.run1 (pure_fieldAddr Ty.f51_0 rfl (.zero _) (List.cons_ne_nil _ _)) rfl ?_ | refine TL.run1 (pure_fieldAddr_own Ty.f51_0 rfl) rfl ?_
    first | refine TL.run1 (pure_load1 Ty.one3 rfl) rfl ?_ | refine TL.run1 (pure_load1_own Ty.one3 rfl (by repeat (first | exact List.Mem.head _ | apply List.Mem.tail)) (by repeat (first | exact DropR.zero _ | apply DropR.succ))) rfl ?_
    first | refine TL.run1 (pure_load1 Ty.one3 rfl) rfl ?_ | refine TL.run1 (pure_load1_own Ty.one3 rfl (by repeat (first | exact List.Mem.head _ | apply List.Mem.tail)) (by repeat (first | exact DropR.zero _ | apply DropR.succ))) rfl ?_
    refine TL.run1 (pure_leq rfl rfl) rfl ?_
    refine TL.run1 (pure_move rfl) rfl ?_
    first | refine TL.splitP 8 rfl (fun hg8 => ?_) (fun hg8 => ?_) | refine TL.split 8 rfl (fun hg8 => ?_) (fun hg8 => ?_)
    · try dsimp only at hg8
      first | refine TL.runG rfl rfl (pure_load1 Ty.one3 rfl) rfl ?_ | refine TL.runG rfl rfl (pure_load1_own Ty.one3 rfl (by repeat (first | exact List.Mem.head _ | apply List.Mem.tail)) (by repeat (first | exact DropR.zero _ | apply DropR.succ))) rfl ?_
      first | refine TL.runG rfl rfl (pure_fieldAddr Ty.f51_1 rfl (.succ (.zero _)) (List.cons_ne_nil _ _)) rfl ?_ | refine TL.runG rfl rfl (pure_fieldAddr_own Ty.f51_1 rfl) rfl ?_
      first | refine TL.runG rfl rfl (pure_load1 Ty.one3 rfl) rfl ?_ | refine TL.runG rfl rfl (pure_load1_own Ty.one3 rfl (by repeat (first | exact List.Mem.head _ | apply List.Mem.tail)) (by repeat (first | exact DropR.zero _ | apply DropR.succ))) rfl ?_
      refine TL.runG rfl rfl (pure_lss rfl rfl) rfl ?_
      refine TL.run1 (pure_pick_true rfl rfl) rfl ?_
      refine TL.run1 (pure_assign rfl) rfl ?_
      refine TL.cutEnd (by repeat (first | exact Same.refl _ _ | refine Same.put rfl ?_)) rfl ?_
      first | (simp only [decide_eq_true_eq, Bool.false_eq_true, false_iff, true_iff, iff_true, iff_false, Bool.not_eq_true]; omega) | (simp_all; done) | (simp_all; omega) | grind
    · try dsimp only at hg8
      refine TL.passG rfl rfl rfl rfl ?_
      refine TL.passG rfl rfl rfl rfl ?_
      refine TL.passG rfl rfl rfl rfl ?_
      refine TL.passG rfl rfl rfl rfl ?_
      refine TL.run1 (pure_pick_false rfl rfl) rfl ?_
      refine TL.run1 (pure_assign rfl) rfl ?_
      refine TL.cutEnd (by repeat (first | exact Same.refl _ _ | refine Same.put rfl ?_)) rfl ?_
      first | (simp only [decide_eq_true_eq, Bool.false_eq_true, false_iff, true_iff, iff_true, iff_false, Bool.not_eq_true]; omega) | (simp_all; done) | (simp_all; omega) | grind
  refine TC.ret ?_
  exact ret_bool rfl rfl
theorem atN_idx (r : RowD) (c : Int) : atN r c = firstIdx (fun k => decide ((sAt (spansR r) k).1 ≤ c ∧ c < (sAt (spansR r) k).2)) (spansR r).length := by
  unfold atN; rw [show (spansR r).length = r.cells.length from spansFrom_len _ _]
set_option maxRecDepth 100000 in
theorem IndexFunc_spec (r : RowD) (hr : RowOk r) (c : Int) : Fun Try.prog 42 [.sl 2 (encS (spansR r)), .fn 43 [.at_ [.v (.int .i64 c)]]] (.v (.int .i64 (atN r c))) := by
  have hsl : (spansR r).length = r.cells.length := spansFrom_len _ _
  have hrl := hr.2.1
  refine Fun.enter (n := 19) (rs := [.tmp 4]) Try.func42 rfl Try.ntmps42 Try.results42 rfl (fun w F => ?_)
  refine TC.seq ?_
  refine TC.region ?_
  refine TL.run1 (pure_assign rfl) rfl ?_
  refine TL.nil' ?_
  refine TC.seq ?_
  refine TC.seq ?_
  refine TC.region ?_
  refine TL.run1 (pure_move rfl) rfl ?_
  first | refine TL.run1 (pure_len Ty.sl44 rfl) rfl ?_ | refine TL.run1 (pure_len_row Ty.sl44 rfl (by repeat (first | exact List.Mem.head _ | apply List.Mem.tail))) rfl ?_ | refine TL.run1 (pure_len_nil Ty.sl44 rfl) rfl ?_
  refine TL.run1 (pure_move rfl) rfl ?_
  refine TL.nil' ?_
  refine TC.block ?_
  refine TC.loopX (X := Int) (fun i => [(0, .sl 2 (encS (spansR r))), (1, .fn 43 [.at_ [.v (.int .i64 c)]]), (7, .v (.int .i64 (spansR r).length)), (8, .v (.int .i64 i))]) (fun i => []) (fun i => (0 ≤ i) ∧ (i ≤ (spansR r).length) ∧ (∀ j : Int, 0 ≤ j → j < i → ¬ ((sAt (spansR r) j).1 ≤ c ∧ c < (sAt (spansR r) j).2))) (fun i => ((spansR r).length - i).toNat) (0) ⟨by rw [encS_len]; repeat (first | exact Agree.nil | refine Agree.cons rfl ?_), by skip; repeat (first | exact List.nil_sublist _ | exact List.Sublist.refl _ | apply List.Sublist.cons_cons | apply List.Sublist.cons)⟩ ?_ ?_
  · skip
    exact ⟨by omega, by omega, fun j _ _ => by omega⟩
  intro i
  rintro ⟨h0, h1, h2⟩
  show TC _ _ _ (Env.of [(0, .sl 2 (encS (spansR r))), (1, .fn 43 [.at_ [.v (.int .i64 c)]]), (7, .v (.int .i64 (spansR r).length)), (8, .v (.int .i64 i))]) []
  have hsk := encS_len (spansR r)
  refine TC.seq ?_
  refine TC.region ?_
  refine TL.run1 (pure_lss rfl rfl) rfl ?_
  refine TL.nil' ?_
  refine TC.seq ?_
  first | refine TC.condD rfl (fun hc9 => ?_) (fun hc9 => ?_) | refine TC.condN rfl (fun hc9 => ?_) (fun hc9 => ?_) | refine TC.cond rfl (fun hc9 => ?_) (fun hc9 => ?_)
  · try dsimp only at hc9
    refine TC.skip' ?_
    refine TC.seq ?_
    refine TC.block ?_
    refine TC.seq ?_
    refine TC.region ?_
    refine TL.run1 (pure_move rfl) rfl ?_
    refine TL.run1 (pure_assign rfl) rfl ?_
    refine TL.nil' ?_
    refine TC.seq ?_
    have hcell := encS_get (spansR r) i h0 (by omega)
    refine TC.region ?_
    refine TL.run1 (pure_move rfl) rfl ?_
    refine TL.run1 (pure_move rfl) rfl ?_
    refine TL.run1 (pure_move rfl) rfl ?_
    refine TL.run1 (pure_indexAddr Ty.sl44 rfl rfl (by omega) (by assumption) (List.cons_ne_nil _ _)) rfl ?_
    first | refine TL.run1 (pure_load Ty.agg51 rfl (.succ (.succ (.zero _)))) rfl ?_ | refine TL.run1 (pure_load_own Ty.agg51 rfl (by repeat (first | exact List.Mem.head _ | apply List.Mem.tail)) (by repeat (first | exact DropR.zero _ | apply DropR.succ)) (.succ (.succ (.zero _)))) rfl ?_
    refine TL.run1 (pure_callv rfl (At1_spec (sAt (spansR r) i).1 (sAt (spansR r) i).2 c) (.cons rfl .nil) Try.call43) rfl ?_
    refine TL.nil' ?_
    first | refine TC.condD rfl (fun hc16 => ?_) (fun hc16 => ?_) | refine TC.condN rfl (fun hc16 => ?_) (fun hc16 => ?_) | refine TC.cond rfl (fun hc16 => ?_) (fun hc16 => ?_)
    · try dsimp only at hc16
      refine TC.seq ?_
      refine TC.region ?_
      refine TL.run1 (pure_move rfl) rfl ?_
      refine TL.run1 (pure_assign rfl) rfl ?_
      refine TL.nil' ?_
      refine TC.ret ?_
      refine block_ret ?_
      refine then_ret ?_
      refine loop_ret ?_
      refine block_ret ?_
      refine then_ret ?_
      exact ret_int rfl (by rw [atN_idx]; exact (firstIdx_at h0 (decide_eq_true hc16) (fun j a b => decide_eq_false (h2 j a b)) (by omega)).symm)
    · try dsimp only at hc16
      refine TC.skip ?_
      refine block_normal ?_
      refine then_normal ?_
      refine TC.region ?_
      refine TL.run1 (pure_add rfl rfl (mkI64 (by omega) (by omega))) rfl ?_
      refine TL.run1 (pure_move rfl) rfl ?_
      refine TL.nil ?_
      refine loop_next (i + 1) ⟨by repeat (first | exact Agree.nil | refine Agree.cons rfl ?_), by repeat (first | exact List.nil_sublist _ | exact List.Sublist.refl _ | apply List.Sublist.cons_cons | apply List.Sublist.cons)⟩ ⟨by omega, by omega, fun j a b => ?_⟩ (by omega)
      rcases Int.lt_or_eq_of_le (show j ≤ i by omega) with h | h
      · exact h2 j a h
      · rw [h]; exact hc16
  · try dsimp only at hc9
    refine TC.exit ?_
    refine then_exit ?_
    refine loop_exit ?_
    refine block_here ?_
    refine then_normal ?_
    refine TC.seq ?_
    refine TC.region ?_
    refine TL.run1 (pure_assign rfl) rfl ?_
    refine TL.nil' ?_
    refine TC.ret ?_
    exact ret_int rfl (by rw [atN_idx]; exact (firstIdx_none fun j a b => decide_eq_false (h2 j a (by omega))).symm)
set_option maxRecDepth 100000 in
theorem At_spec (rs : List RowD) (hr : TabOk rs) (i c : Int) : Fun Try.prog 27 [.sl 6 (encRs rs), .v (.int .i64 i), .v (.int .i64 c)] (.tup [.v (.int .i64 (atV rs i c)), .v (.int .i64 (atE rs i c))]) := by
  refine Fun.enter (n := 35) (rs := [.tmp 6, .tmp 7]) Try.func27 rfl Try.ntmps27 Try.results27 rfl (fun w F => ?_)
  have hk := encRs_len rs
  refine TC.seq ?_
  refine TC.region ?_
  refine TL.box rfl (.one rfl) rfl (fun g5 => ?_)
  refine TL.run1 (pure_assign rfl) rfl ?_
  refine TL.run1 (pure_assign rfl) rfl ?_
  refine TL.nil' ?_
  refine TC.seq ?_
  refine TC.regionCut [9, 10, 11, 12, 13, 14, 15, 16, 17, 18, 19, 20, 21, 22, 23, 24] 24 (¬ (0 ≤ i ∧ i < rs.length ∧ 0 ≤ c ∧ c < 32)) ?_ ?_
  · skip
    refine TL.run1 (pure_move rfl) rfl ?_
    refine TL.run1 (pure_lss rfl rfl) rfl ?_
    refine TL.run1 (pure_move rfl) rfl ?_
    first | refine TL.splitP 11 rfl (fun hg11 => ?_) (fun hg11 => ?_) | refine TL.split 11 rfl (fun hg11 => ?_) (fun hg11 => ?_)
    · try dsimp only at hg11
      refine TL.passG rfl rfl rfl rfl ?_
      refine TL.passG rfl rfl rfl rfl ?_
      refine TL.passG rfl rfl rfl rfl ?_
      refine TL.passG rfl rfl rfl rfl ?_
      refine TL.run1 (pure_pick_true rfl rfl) rfl ?_
      refine TL.run1 (pure_move rfl) rfl ?_
      refine TL.passG rfl rfl rfl rfl ?_
      refine TL.passG rfl rfl rfl rfl ?_
      refine TL.run1 (pure_pick_true rfl rfl) rfl ?_
      refine TL.run1 (pure_move rfl) rfl ?_
      refine TL.passG rfl rfl rfl rfl ?_
      refine TL.passG rfl rfl rfl rfl ?_
      refine TL.run1 (pure_pick_true rfl rfl) rfl ?_
      refine TL.cutEnd (by repeat (first | exact Same.refl _ _ | refine Same.put rfl ?_)) rfl ?_
      first | (simp only [decide_eq_true_eq, Bool.false_eq_true, false_iff, true_iff, iff_true, iff_false, Bool.not_eq_true]; omega) | (simp_all; done) | (simp_all; omega) | grind
    · try dsimp only at hg11
      refine TL.runG rfl rfl (pure_move rfl) rfl ?_
      refine TL.runG rfl rfl (pure_move rfl) rfl ?_
      first | refine TL.runG rfl rfl (pure_len Ty.sl22 rfl) rfl ?_ | refine TL.runG rfl rfl (pure_len_row Ty.sl22 rfl (by repeat (first | exact List.Mem.head _ | apply List.Mem.tail))) rfl ?_ | refine TL.runG rfl rfl (pure_len_nil Ty.sl22 rfl) rfl ?_
      refine TL.runG rfl rfl (pure_geq rfl rfl) rfl ?_
      refine TL.run1 (pure_pick_false rfl rfl) rfl ?_
      refine TL.run1 (pure_move rfl) rfl ?_
      first | refine TL.splitP 17 rfl (fun hg17 => ?_) (fun hg17 => ?_) | refine TL.split 17 rfl (fun hg17 => ?_) (fun hg17 => ?_)
      · try dsimp only at hg17
        refine TL.passG rfl rfl rfl rfl ?_
        refine TL.passG rfl rfl rfl rfl ?_
        refine TL.run1 (pure_pick_true rfl rfl) rfl ?_
        refine TL.run1 (pure_move rfl) rfl ?_
        refine TL.passG rfl rfl rfl rfl ?_
        refine TL.passG rfl rfl rfl rfl ?_
        refine TL.run1 (pure_pick_true rfl rfl) rfl ?_
        refine TL.cutEnd (by repeat (first | exact Same.refl _ _ | refine Same.put rfl ?_)) rfl ?_
        first | (simp only [decide_eq_true_eq, Bool.false_eq_true, false_iff, true_iff, iff_true, iff_false, Bool.not_eq_true]; omega) | (simp_all; done) | (simp_all; omega) | grind
      · try dsimp only at hg17
        first | refine TL.runG rfl rfl (pure_load1 Ty.one3 rfl) rfl ?_ | refine TL.runG rfl rfl (pure_load1_own Ty.one3 rfl (by repeat (first | exact List.Mem.head _ | apply List.Mem.tail)) (by repeat (first | exact DropR.zero _ | apply DropR.succ))) rfl ?_
        refine TL.runG rfl rfl (pure_lss rfl rfl) rfl ?_
        refine TL.run1 (pure_pick_false rfl rfl) rfl ?_
        refine TL.run1 (pure_move rfl) rfl ?_
        first | refine TL.splitP 21 rfl (fun hg21 => ?_) (fun hg21 => ?_) | refine TL.split 21 rfl (fun hg21 => ?_) (fun hg21 => ?_)
        · try dsimp only at hg21
          refine TL.passG rfl rfl rfl rfl ?_
          refine TL.passG rfl rfl rfl rfl ?_
          refine TL.run1 (pure_pick_true rfl rfl) rfl ?_
          refine TL.cutEnd (by repeat (first | exact Same.refl _ _ | refine Same.put rfl ?_)) rfl ?_
          first | (simp only [decide_eq_true_eq, Bool.false_eq_true, false_iff, true_iff, iff_true, iff_false, Bool.not_eq_true]; omega) | (simp_all; done) | (simp_all; omega) | grind
        · try dsimp only at hg21
          first | refine TL.runG rfl rfl (pure_load1 Ty.one3 rfl) rfl ?_ | refine TL.runG rfl rfl (pure_load1_own Ty.one3 rfl (by repeat (first | exact List.Mem.head _ | apply List.Mem.tail)) (by repeat (first | exact DropR.zero _ | apply DropR.succ))) rfl ?_
          refine TL.runG rfl rfl (pure_geq rfl rfl) rfl ?_
          refine TL.run1 (pure_pick_false rfl rfl) rfl ?_
          refine TL.cutEnd (by repeat (first | exact Same.refl _ _ | refine Same.put rfl ?_)) rfl ?_
          first | (simp only [decide_eq_true_eq, Bool.false_eq_true, false_iff, true_iff, iff_true, iff_false, Bool.not_eq_true]; omega) | (simp_all; done) | (simp_all; omega) | grind
  first | refine TC.condD rfl (fun hc24 => ?_) (fun hc24 => ?_) | refine TC.condN rfl (fun hc24 => ?_) (fun hc24 => ?_) | refine TC.cond rfl (fun hc24 => ?_) (fun hc24 => ?_)
  · try dsimp only at hc24
    have hin := hc24
    refine TC.seq ?_
    refine TC.region ?_
    refine TL.run1 (pure_assign rfl) rfl ?_
    refine TL.run1 (pure_assign rfl) rfl ?_
    refine TL.nil' ?_
    refine TC.ret ?_
    refine then_ret ?_
    exact ret2 (.inl rfl) rfl rfl (by unfold atV atE; rw [if_neg hin, if_neg hin])
  · try dsimp only at hc24
    have hin : 0 ≤ i ∧ i < rs.length ∧ 0 ≤ c ∧ c < 32 := Decidable.not_not.1 hc24
    obtain ⟨i0, i1, c0, c1⟩ := id hin
    refine TC.skip' ?_
    refine TC.seq ?_
    refine TC.frz 5 [] (List.nil_sublist _) rfl (.boxS (gone_nil (by repeat (first | exact List.Mem.head _ | apply List.Mem.tail))) (List.cons_ne_nil _ _)) ?_
    have hrow := encRs_get rs i (by omega) (by omega)
    have hro := hr.1 _ (rAt_mem rs i (by omega) (by omega))
    refine TC.region ?_
    refine TL.run1 (pure_move rfl) rfl ?_
    refine TL.run1 (pure_move rfl) rfl ?_
    refine TL.run1 (pure_indexAddr Ty.sl22 rfl rfl (by omega) (by assumption) (List.cons_ne_nil _ _)) rfl ?_
    first | refine TL.run1 (pure_load Ty.agg36 rfl (.succ (.succ (.succ (.succ (.succ (.succ (.zero _)))))))) rfl ?_ | refine TL.run1 (pure_load_own Ty.agg36 rfl (by repeat (first | exact List.Mem.head _ | apply List.Mem.tail)) (by repeat (first | exact DropR.zero _ | apply DropR.succ)) (.succ (.succ (.succ (.succ (.succ (.succ (.zero _)))))))) rfl ?_
    refine TL.run1 (pure_call (spans_spec _ hro) (.cons rfl .nil) Try.call39) rfl ?_
    refine TL.run1 (pure_makeFunc (.cons rfl .nil)) rfl ?_
    refine TL.run1 (pure_call (IndexFunc_spec _ hro _) (.cons rfl (.cons rfl .nil)) Try.call42) rfl ?_
    refine TL.run1 (pure_assign rfl) rfl ?_
    refine TL.nil' ?_
    refine TC.seq ?_
    refine TC.seq ?_
    refine TC.region ?_
    refine TL.run1 (pure_move rfl) rfl ?_
    refine TL.run1 (pure_lss rfl rfl) rfl ?_
    refine TL.nil' ?_
    first | refine TC.condD rfl (fun hc33 => ?_) (fun hc33 => ?_) | refine TC.condN rfl (fun hc33 => ?_) (fun hc33 => ?_) | refine TC.cond rfl (fun hc33 => ?_) (fun hc33 => ?_)
    · try dsimp only at hc33
      refine TC.seq ?_
      refine TC.region ?_
      refine TL.run1 (pure_assign rfl) rfl ?_
      refine TL.run1 (pure_assign rfl) rfl ?_
      refine TL.nil' ?_
      refine TC.ret ?_
      refine then_ret ?_
      exact ret2 (.inl rfl) rfl rfl (by unfold atV atE; rw [if_pos hin, if_pos hin, if_neg (by omega), if_neg (by omega)])
    · try dsimp only at hc33
      refine TC.skip' ?_
      refine TC.seq ?_
      refine TC.region ?_
      refine TL.run1 (pure_move rfl) rfl ?_
      refine TL.run1 (pure_assign rfl) rfl ?_
      refine TL.run1 (pure_assign rfl) rfl ?_
      refine TL.nil' ?_
      refine TC.ret ?_
      exact ret2 (.inl rfl) rfl rfl (by unfold atV atE; rw [if_pos hin, if_pos hin, if_pos (by omega), if_pos (by omega)])
set_option maxRecDepth 100000 in
theorem GridRects_spec (rs : List RowD) : Fun Try.prog 3 [.sl 6 (encRs rs)] (.v (.bool true)) := by
  refine Fun.enter (n := 68) (rs := [.tmp 2]) Try.func3 rfl Try.ntmps3 Try.results3 rfl (fun w F => ?_)
  have hk := encRs_len rs
  refine TC.seq ?_
  refine TC.region ?_
  refine TL.run1 (pure_assign rfl) rfl ?_
  refine TL.nil' ?_
  refine TC.seq ?_
  refine TC.regionCut [9, 10, 11, 12, 13, 14, 15] 15 (smallB rs = false) ?_ ?_
  · skip
    refine TL.run1 (pure_call (known_spec) .nil Try.call12) rfl ?_
    refine TL.run1 (pure_not rfl) rfl ?_
    refine TL.run1 (pure_move rfl) rfl ?_
    first | refine TL.splitP 11 rfl (fun hg11 => ?_) (fun hg11 => ?_) | refine TL.split 11 rfl (fun hg11 => ?_) (fun hg11 => ?_)
    · try dsimp only at hg11
      refine TL.passG rfl rfl rfl rfl ?_
      refine TL.passG rfl rfl rfl rfl ?_
      refine TL.passG rfl rfl rfl rfl ?_
      refine TL.run1 (pure_pick_true rfl rfl) rfl ?_
      refine TL.cutEnd (by repeat (first | exact Same.refl _ _ | refine Same.put rfl ?_)) rfl ?_
      first | (simp only [decide_eq_true_eq, Bool.false_eq_true, false_iff, true_iff, iff_true, iff_false, Bool.not_eq_true]; omega) | (simp_all; done) | (simp_all; omega) | grind
    · try dsimp only at hg11
      refine TL.runG rfl rfl (pure_move rfl) rfl ?_
      refine TL.runG rfl rfl (pure_call (Small_spec _) (.cons rfl .nil) Try.call13) rfl ?_
      refine TL.runG rfl rfl (pure_not rfl) rfl ?_
      refine TL.run1 (pure_pick_false rfl rfl) rfl ?_
      refine TL.cutEnd (by repeat (first | exact Same.refl _ _ | refine Same.put rfl ?_)) rfl ?_
      first | (simp only [decide_eq_true_eq, Bool.false_eq_true, false_iff, true_iff, iff_true, iff_false, Bool.not_eq_true]; omega) | (simp_all; done) | (simp_all; omega) | grind
  first | refine TC.condD rfl (fun hc15 => ?_) (fun hc15 => ?_) | refine TC.condN rfl (fun hc15 => ?_) (fun hc15 => ?_) | refine TC.cond rfl (fun hc15 => ?_) (fun hc15 => ?_)
  · try dsimp only at hc15
    refine TC.seq ?_
    refine TC.region ?_
    refine TL.run1 (pure_call (known_spec) .nil Try.call12) rfl ?_
    refine TL.run1 (pure_assign rfl) rfl ?_
    refine TL.nil' ?_
    refine TC.ret ?_
    refine then_ret ?_
    exact ret_bool rfl rfl
  · try dsimp only at hc15
    have hsm : SmallT rs := (smallB_iff rs).1 (by simpa using hc15)
    have hr := hsm.ok
    have hl : rs.length ≤ 2000 := by have := hsm.1; omega
    have hql : (layRects rs).length ≤ 2000 * rs.length := (lay_ok (fun r hh => (hr.1 r hh).2.2) rs.length (Nat.le_refl _)).len
    refine TC.skip' ?_
    refine TC.seq ?_
    refine TC.region ?_
    refine TL.run1 (pure_move rfl) rfl ?_
    refine TL.run1 (pure_call (Rects_spec rs hr.1 hl) (.cons rfl .nil) Try.call14) rfl ?_
    refine TL.run1 (pure_assign rfl) rfl ?_
    refine TL.nil' ?_
    refine TC.seq ?_
    refine TC.region ?_
    refine TL.run1 (pure_assign rfl) rfl ?_
    refine TL.nil' ?_
    refine TC.seq ?_
    refine TC.seq ?_
    refine TC.region ?_
    refine TL.run1 (pure_assign rfl) rfl ?_
    refine TL.nil' ?_
    refine TC.block ?_
    refine TC.loopX (X := Int) (fun i => [(0, .sl 6 (encRs rs)), (3, .sl 6 (encQs (layRects rs))), (4, .v (.int .i64 (cntN rs i 0))), (5, .v (.int .i64 i))]) (fun i => []) (fun i => (0 ≤ i) ∧ (i ≤ rs.length)) (fun i => (rs.length - i).toNat) (0) ⟨by skip; repeat (first | exact Agree.nil | refine Agree.cons rfl ?_), by skip; repeat (first | exact List.nil_sublist _ | exact List.Sublist.refl _ | apply List.Sublist.cons_cons | apply List.Sublist.cons)⟩ ?_ ?_
    · skip
      exact ⟨by omega, by omega⟩
    intro i
    rintro ⟨h0, h1⟩
    show TC _ _ _ (Env.of [(0, .sl 6 (encRs rs)), (3, .sl 6 (encQs (layRects rs))), (4, .v (.int .i64 (cntN rs i 0))), (5, .v (.int .i64 i))]) []
    have hqk := encQs_len (layRects rs)
    refine TC.seq ?_
    refine TC.seq ?_
    refine TC.region ?_
    refine TL.run1 (pure_move rfl) rfl ?_
    refine TL.run1 (pure_move rfl) rfl ?_
    first | refine TL.run1 (pure_len Ty.sl22 rfl) rfl ?_ | refine TL.run1 (pure_len_row Ty.sl22 rfl (by repeat (first | exact List.Mem.head _ | apply List.Mem.tail))) rfl ?_ | refine TL.run1 (pure_len_nil Ty.sl22 rfl) rfl ?_
    refine TL.run1 (pure_lss rfl rfl) rfl ?_
    refine TL.nil' ?_
    first | refine TC.condD rfl (fun hc22 => ?_) (fun hc22 => ?_) | refine TC.condN rfl (fun hc22 => ?_) (fun hc22 => ?_) | refine TC.cond rfl (fun hc22 => ?_) (fun hc22 => ?_)
    · try dsimp only at hc22
      refine TC.skip' ?_
      refine TC.seq ?_
      refine TC.block ?_
      refine TC.seq ?_
      refine TC.region ?_
      refine TL.run1 (pure_assign rfl) rfl ?_
      refine TL.nil' ?_
      refine TC.block ?_
      refine TC.loopX (X := Int) (fun k => [(0, .sl 6 (encRs rs)), (3, .sl 6 (encQs (layRects rs))), (4, .v (.int .i64 (cntN rs i k))), (5, .v (.int .i64 i)), (6, .v (.int .i64 k))]) (fun k => []) (fun k => (0 ≤ k) ∧ (k ≤ (rAt rs i).cells.length)) (fun k => ((rAt rs i).cells.length - k).toNat) (0) ⟨by skip; repeat (first | exact Agree.nil | refine Agree.cons rfl ?_), by skip; repeat (first | exact List.nil_sublist _ | exact List.Sublist.refl _ | apply List.Sublist.cons_cons | apply List.Sublist.cons)⟩ ?_ ?_
      · skip
        exact ⟨by omega, by omega⟩
      intro k
      rintro ⟨k0, k1⟩
      show TC _ _ _ (Env.of [(0, .sl 6 (encRs rs)), (3, .sl 6 (encQs (layRects rs))), (4, .v (.int .i64 (cntN rs i k))), (5, .v (.int .i64 i)), (6, .v (.int .i64 k))]) []
      refine TC.seq ?_
      refine TC.seq ?_
      have hrow := encRs_get rs i (by omega) (by omega)
      have hro := hr.1 _ (rAt_mem rs i (by omega) (by omega))
      have hck := encCs_len (rAt rs i).cells
      have hrl := hro.2.1
      refine TC.region ?_
      refine TL.run1 (pure_move rfl) rfl ?_
      refine TL.run1 (pure_move rfl) rfl ?_
      refine TL.run1 (pure_move rfl) rfl ?_
      refine TL.run1 (pure_indexAddr Ty.sl22 rfl rfl (by omega) (by assumption) (List.cons_ne_nil _ _)) rfl ?_
      first | refine TL.run1 (pure_fieldAddr Ty.f36_1 rfl (.succ (.succ (.succ (.succ (.succ (.zero _)))))) (List.cons_ne_nil _ _)) rfl ?_ | refine TL.run1 (pure_fieldAddr_own Ty.f36_1 rfl) rfl ?_
      first | refine TL.run1 (pure_load1 Ty.one34 rfl) rfl ?_ | refine TL.run1 (pure_load1_own Ty.one34 rfl (by repeat (first | exact List.Mem.head _ | apply List.Mem.tail)) (by repeat (first | exact DropR.zero _ | apply DropR.succ))) rfl ?_
      first | refine TL.run1 (pure_len Ty.sl34 rfl) rfl ?_ | refine TL.run1 (pure_len_row Ty.sl34 rfl (by repeat (first | exact List.Mem.head _ | apply List.Mem.tail))) rfl ?_ | refine TL.run1 (pure_len_nil Ty.sl34 rfl) rfl ?_
      refine TL.run1 (pure_lss rfl rfl) rfl ?_
      refine TL.nil' ?_
      first | refine TC.condD rfl (fun hc32 => ?_) (fun hc32 => ?_) | refine TC.condN rfl (fun hc32 => ?_) (fun hc32 => ?_) | refine TC.cond rfl (fun hc32 => ?_) (fun hc32 => ?_)
      · try dsimp only at hc32
        refine TC.skip' ?_
        refine TC.seq ?_
        refine TC.block ?_
        refine TC.seq ?_
        have hex : existsN rs i k := ⟨by omega, by omega, by omega, by omega⟩
        refine TC.region ?_
        refine TL.run1 (pure_move rfl) rfl ?_
        refine TL.run1 (pure_move rfl) rfl ?_
        refine TL.run1 (pure_move rfl) rfl ?_
        refine TL.run1 (pure_call (place_spec _ hr _ _) (.cons rfl (.cons rfl (.cons rfl .nil))) Try.call15) rfl ?_
        refine TL.run1 (pure_move rfl) rfl ?_
        refine TL.run1 (pure_extract rfl rfl) rfl ?_
        refine TL.run1 (pure_extract rfl rfl) rfl ?_
        refine TL.alloc Ty.zero40 rfl (fun g7 => ?_)
        refine TL.store rfl rfl (.agg _) Try.sizeOf40 rfl (by repeat (first | exact UpdR.here _ | apply UpdR.there)) (by repeat (first | exact PutR.nil _ | apply PutR.here | apply PutR.skip)) ?_
        refine TL.run1 (pure_assign rfl) rfl ?_
        refine TL.nil' ?_
        refine TC.seq ?_
        refine TC.regionCut [42, 43, 44, 45, 46, 47, 48, 49] 49 (stB rs i k = false) ?_ ?_
        · skip
          refine TL.run1 (pure_move rfl) rfl ?_
          refine TL.run1 (pure_neq rfl rfl) rfl ?_
          refine TL.run1 (pure_move rfl) rfl ?_
          first | refine TL.splitP 44 rfl (fun hg44 => ?_) (fun hg44 => ?_) | refine TL.split 44 rfl (fun hg44 => ?_) (fun hg44 => ?_)
          · try dsimp only at hg44
            refine TL.passG rfl rfl rfl rfl ?_
            refine TL.passG rfl rfl rfl rfl ?_
            refine TL.passG rfl rfl rfl rfl ?_
            refine TL.passG rfl rfl rfl rfl ?_
            refine TL.run1 (pure_pick_true rfl rfl) rfl ?_
            refine TL.cutEnd (by repeat (first | exact Same.refl _ _ | refine Same.put rfl ?_)) rfl ?_
            have hsi := st_iff hex
            grind
          · try dsimp only at hg44
            first | refine TL.runG rfl rfl (pure_fieldAddr Ty.f40_0 rfl (.zero _) (List.cons_ne_nil _ _)) rfl ?_ | refine TL.runG rfl rfl (pure_fieldAddr_own Ty.f40_0 rfl) rfl ?_
            first | refine TL.runG rfl rfl (pure_load1 Ty.one3 rfl) rfl ?_ | refine TL.runG rfl rfl (pure_load1_own Ty.one3 rfl (by repeat (first | exact List.Mem.head _ | apply List.Mem.tail)) (by repeat (first | exact DropR.zero _ | apply DropR.succ))) rfl ?_
            refine TL.runG rfl rfl (pure_move rfl) rfl ?_
            refine TL.runG rfl rfl (pure_neq rfl rfl) rfl ?_
            refine TL.run1 (pure_pick_false rfl rfl) rfl ?_
            refine TL.cutEnd (by repeat (first | exact Same.refl _ _ | refine Same.put rfl ?_)) rfl ?_
            have hsi := st_iff hex
            grind
        first | refine TC.condD rfl (fun hc49 => ?_) (fun hc49 => ?_) | refine TC.condN rfl (fun hc49 => ?_) (fun hc49 => ?_) | refine TC.cond rfl (fun hc49 => ?_) (fun hc49 => ?_)
        · try dsimp only at hc49
          refine TC.exit ?_
          refine then_exit ?_
          refine block_here ?_
          refine then_normal ?_
          refine TC.region ?_
          refine TL.run1 (pure_move rfl) rfl ?_
          refine TL.run1 (pure_add rfl rfl (mkI64 (by omega) (by omega))) rfl ?_
          refine TL.run1 (pure_assign rfl) rfl ?_
          refine TL.nil ?_
          have hcs := cntN_step rs i k h0 k0
          rw [if_neg (by rw [hc49]; simp)] at hcs
          try rw [← hcs]
          refine loop_next (k + 1) ⟨by (try rw [← hcs]); repeat (first | exact Agree.nil | refine Agree.cons rfl ?_), by repeat (first | exact List.nil_sublist _ | exact List.Sublist.refl _ | apply List.Sublist.cons_cons | apply List.Sublist.cons)⟩ ⟨by omega, by omega⟩ (by omega)
        · try dsimp only at hc49
          have hst : stB rs i k = true := by simpa using hc49
          obtain ⟨q0, q1, q2, q3⟩ := rects_at hex hst
          have hcell := encQs_get (layRects rs) (cntN rs i k) q0 q1
          have hpr : placeR rs i k = rectN rs i k := by unfold placeR; rw [if_pos ⟨hex, q3⟩]
          rw [q2, ← hpr] at hcell
          refine TC.skip' ?_
          refine TC.seq ?_
          refine TC.drawCut [50, 51, 52, 53, 54, 55, 56, 57, 58, 59, 60, 61] 61 (False) Ty.follows (by kernel_rfl) ?_ ?_
          · skip
            refine TD.run1 (pure_move rfl) rfl ?_
            refine TD.run1 (pure_move rfl) rfl ?_
            first | refine TD.run1 (pure_len Ty.sl25 rfl) rfl ?_ | refine TD.run1 (pure_len_row Ty.sl25 rfl (by repeat (first | exact List.Mem.head _ | apply List.Mem.tail))) rfl ?_ | refine TD.run1 (pure_len_nil Ty.sl25 rfl) rfl ?_
            refine TD.run1 (pure_geq rfl rfl) rfl ?_
            refine TD.run1 (pure_move rfl) rfl ?_
            first | refine TD.splitP 54 rfl (fun hg54 => ?_) (fun hg54 => ?_) | refine TD.split 54 rfl (fun hg54 => ?_) (fun hg54 => ?_)
            · try dsimp only at hg54
              refine TD.passG rfl rfl rfl rfl ?_
              refine TD.passG rfl rfl rfl rfl ?_
              refine TD.passG rfl rfl rfl rfl ?_
              refine TD.passG rfl rfl rfl rfl ?_
              refine TD.passG rfl rfl rfl rfl ?_
              refine TD.passG rfl rfl rfl rfl ?_
              refine TD.run1 (pure_pick_true rfl rfl) rfl ?_
              refine TD.cutEnd (by repeat (first | exact Same.refl _ _ | refine Same.put rfl ?_)) rfl ?_
              first | (simp only [decide_eq_true_eq, Bool.false_eq_true, false_iff, true_iff, iff_true, iff_false, Bool.not_eq_true]; omega) | (simp_all; done) | (simp_all; omega) | grind
            · try dsimp only at hg54
              refine TD.runG rfl rfl (pure_move rfl) rfl ?_
              refine TD.runG rfl rfl (pure_move rfl) rfl ?_
              refine TD.runG rfl rfl (pure_indexAddr Ty.sl25 rfl rfl (by omega) (by assumption) (List.cons_ne_nil _ _)) rfl ?_
              first | refine TD.runG rfl rfl (pure_load Ty.agg40 rfl (.succ (.succ (.succ (.succ (.succ (.succ (.zero _)))))))) rfl ?_ | refine TD.runG rfl rfl (pure_load_own Ty.agg40 rfl (by repeat (first | exact List.Mem.head _ | apply List.Mem.tail)) (by repeat (first | exact DropR.zero _ | apply DropR.succ)) (.succ (.succ (.succ (.succ (.succ (.succ (.zero _)))))))) rfl ?_
              first | refine TD.runG rfl rfl (pure_load Ty.agg40 rfl (.succ (.succ (.succ (.succ (.succ (.succ (.zero _)))))))) rfl ?_ | refine TD.runG rfl rfl (pure_load_own Ty.agg40 rfl (by repeat (first | exact List.Mem.head _ | apply List.Mem.tail)) (by repeat (first | exact DropR.zero _ | apply DropR.succ)) (.succ (.succ (.succ (.succ (.succ (.succ (.zero _)))))))) rfl ?_
              refine TD.runG rfl rfl (pure_neq_agg Ty.eq40 rfl rfl (.cons (.cons (.cons (.cons (.cons (.cons .nil)))))) (.cons (.cons (.cons (.cons (.cons (.cons .nil)))))) rfl rfl) rfl ?_
              refine TD.run1 (pure_pick_false rfl rfl) rfl ?_
              refine TD.cutEnd (by repeat (first | exact Same.refl _ _ | refine Same.put rfl ?_)) rfl ?_
              first | (simp only [decide_eq_true_eq, Bool.false_eq_true, false_iff, true_iff, iff_true, iff_false, Bool.not_eq_true]; omega) | (simp_all; done) | (simp_all; omega) | grind
          first | refine TC.condD rfl (fun hc61 => ?_) (fun hc61 => ?_) | refine TC.condN rfl (fun hc61 => ?_) (fun hc61 => ?_) | refine TC.cond rfl (fun hc61 => ?_) (fun hc61 => ?_)
          · try dsimp only at hc61
            all_goals exact absurd hc61 id
          · try dsimp only at hc61
            refine TC.skip' ?_
            have hcb : cntN rs i k < 1000000000 := by (have := hsm.1; omega)
            refine TC.region ?_
            refine TL.run1 (pure_move rfl) rfl ?_
            refine TL.run1 (pure_add rfl rfl (mkI64 (by omega) (by omega))) rfl ?_
            refine TL.run1 (pure_assign rfl) rfl ?_
            refine TL.nil ?_
            refine block_normal ?_
            refine then_normal ?_
            refine TC.region ?_
            refine TL.run1 (pure_move rfl) rfl ?_
            refine TL.run1 (pure_add rfl rfl (mkI64 (by omega) (by omega))) rfl ?_
            refine TL.run1 (pure_assign rfl) rfl ?_
            refine TL.nil ?_
            have hcs := cntN_step rs i k h0 k0
            rw [if_pos hst] at hcs
            try rw [← hcs]
            refine loop_next (k + 1) ⟨by (try rw [← hcs]); repeat (first | exact Agree.nil | refine Agree.cons rfl ?_), by repeat (first | exact List.nil_sublist _ | exact List.Sublist.refl _ | apply List.Sublist.cons_cons | apply List.Sublist.cons)⟩ ⟨by omega, by omega⟩ (by omega)
      · try dsimp only at hc32
        refine TC.exit ?_
        refine then_exit ?_
        refine loop_exit ?_
        refine block_here ?_
        refine block_normal ?_
        refine then_normal ?_
        refine TC.region ?_
        refine TL.run1 (pure_move rfl) rfl ?_
        refine TL.run1 (pure_add rfl rfl (mkI64 (by omega) (by omega))) rfl ?_
        refine TL.run1 (pure_assign rfl) rfl ?_
        refine TL.nil ?_
        have hkk : k = ncN rs i := by (unfold ncN; omega)
        rw [hkk, cntN_row rs i h0]
        refine loop_next (i + 1) ⟨by repeat (first | exact Agree.nil | refine Agree.cons rfl ?_), by repeat (first | exact List.nil_sublist _ | exact List.Sublist.refl _ | apply List.Sublist.cons_cons | apply List.Sublist.cons)⟩ ⟨by omega, by omega⟩ (by omega)
    · try dsimp only at hc22
      refine TC.exit ?_
      refine then_exit ?_
      refine loop_exit ?_
      refine block_here ?_
      refine then_normal ?_
      refine TC.seq ?_
      have hfin := rects_len rs
      rw [show (rs.length : Int) = i by omega] at hfin
      refine TC.region ?_
      refine TL.run1 (pure_move rfl) rfl ?_
      refine TL.run1 (pure_move rfl) rfl ?_
      first | refine TL.run1 (pure_len Ty.sl25 rfl) rfl ?_ | refine TL.run1 (pure_len_row Ty.sl25 rfl (by repeat (first | exact List.Mem.head _ | apply List.Mem.tail))) rfl ?_ | refine TL.run1 (pure_len_nil Ty.sl25 rfl) rfl ?_
      refine TL.run1 (pure_eql rfl rfl) rfl ?_
      refine TL.run1 (pure_assign rfl) rfl ?_
      refine TL.nil' ?_
      refine TC.ret ?_
      exact ret_bool rfl (by simp; omega)
end Go.Ob
