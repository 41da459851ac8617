import Derived.Test.YtlhjcleejolbiaaN3
set_option linter.unusedVariables false
set_option linter.unusedSimpArgs false
namespace Go.Ob
open Go.Proofs
set_option maxRecDepth 100000 in
theorem Same_spec (r : RowD) (hr : RowOk r) (f t : Int) : Fun Try.prog 48 [.agg (encR r), .v (.int .i64 f), .v (.int .i64 t)] (.v (.int .i64 (sameN r f t))) := by
  refine Fun.enter (n := 37) (rs := [.tmp 6]) Try.func48 rfl Try.ntmps48 Try.results48 rfl (fun w F => ?_)
  refine TC.seq ?_
  refine TC.region ?_
  refine TL.box rfl (.agg _) rfl (fun g3 => ?_)
  refine TL.run1 (pure_assign rfl) rfl ?_
  refine TL.nil' ?_
  refine TC.seq ?_
  refine TC.seq ?_
  refine TC.region ?_
  refine TL.run1 (pure_assign rfl) rfl ?_
  refine TL.nil' ?_
  refine TC.block ?_
  refine TC.loopX (X := Int) (fun i => [(1, .v (.int .i64 f)), (2, .v (.int .i64 t)), (3, .v (.pointer (some ⟨g3, 0, none⟩))), (7, .v (.int .i64 i))]) (fun i => [.box g3 36 (encR r)]) (fun i => (0 ≤ i) ∧ (i ≤ r.cells.length) ∧ (∀ j : Int, 0 ≤ j → j < i → ¬ ((sAt (spansR r) j).1 = f ∧ (sAt (spansR r) j).2 = t ∧ (sAt (spansR r) j).1 < (sAt (spansR r) j).2))) (fun i => (r.cells.length - i).toNat) (0) ⟨by skip; repeat (first | exact Agree.nil | refine Agree.cons rfl ?_), by skip; repeat (first | exact List.nil_sublist _ | exact List.Sublist.refl _ | apply List.Sublist.cons_cons | apply List.Sublist.cons)⟩ ?_ ?_
  · skip
    exact ⟨by omega, by omega, fun j _ _ => by omega⟩
  intro i
  rintro ⟨h0, h1, h2⟩
  show TC _ _ _ (Env.of [(1, .v (.int .i64 f)), (2, .v (.int .i64 t)), (3, .v (.pointer (some ⟨g3, 0, none⟩))), (7, .v (.int .i64 i))]) [.box g3 36 (encR r)]
  have hck := encCs_len r.cells
  have hrl := hr.2.1
  refine TC.seq ?_
  refine TC.seq ?_
  refine TC.region ?_
  refine TL.run1 (pure_move rfl) rfl ?_
  first | refine TL.run1 (pure_fieldAddr Ty.f36_1 rfl (.succ (.succ (.succ (.succ (.succ (.zero _)))))) (List.cons_ne_nil _ _)) rfl ?_ | refine TL.run1 (pure_fieldAddr_own Ty.f36_1 rfl) rfl ?_
  first | refine TL.run1 (pure_load1 Ty.one34 rfl) rfl ?_ | refine TL.run1 (pure_load1_own Ty.one34 rfl (by repeat (first | exact List.Mem.head _ | apply List.Mem.tail)) (by repeat (first | exact DropR.zero _ | apply DropR.succ))) rfl ?_
  first | refine TL.run1 (pure_len Ty.sl34 rfl) rfl ?_ | refine TL.run1 (pure_len_row Ty.sl34 rfl (by repeat (first | exact List.Mem.head _ | apply List.Mem.tail))) rfl ?_ | refine TL.run1 (pure_len_nil Ty.sl34 rfl) rfl ?_
  refine TL.run1 (pure_lss rfl rfl) rfl ?_
  refine TL.nil' ?_
  first | refine TC.condD rfl (fun hc14 => ?_) (fun hc14 => ?_) | refine TC.condN rfl (fun hc14 => ?_) (fun hc14 => ?_) | refine TC.cond rfl (fun hc14 => ?_) (fun hc14 => ?_)
  · try dsimp only at hc14
    refine TC.skip' ?_
    refine TC.seq ?_
    refine TC.block ?_
    refine TC.seq ?_
    refine TC.region ?_
    first | refine TL.run1 (pure_load Ty.agg36 rfl (.succ (.succ (.succ (.succ (.succ (.succ (.zero _)))))))) rfl ?_ | refine TL.run1 (pure_load_own Ty.agg36 rfl (by repeat (first | exact List.Mem.head _ | apply List.Mem.tail)) (by repeat (first | exact DropR.zero _ | apply DropR.succ)) (.succ (.succ (.succ (.succ (.succ (.succ (.zero _)))))))) rfl ?_
    refine TL.run1 (pure_move rfl) rfl ?_
    refine TL.run1 (pure_call (span_spec _ hr _ h0 (by omega)) (.cons rfl (.cons rfl .nil)) Try.call19) rfl ?_
    refine TL.run1 (pure_move rfl) rfl ?_
    refine TL.run1 (pure_extract rfl rfl) rfl ?_
    refine TL.run1 (pure_extract rfl rfl) rfl ?_
    refine TL.run1 (pure_assign rfl) rfl ?_
    refine TL.run1 (pure_assign rfl) rfl ?_
    refine TL.nil' ?_
    refine TC.regionCut [23, 24, 25, 26, 27, 28, 29, 30, 31, 32, 33, 34, 35] 35 ((sAt (spansR r) i).1 = f ∧ (sAt (spansR r) i).2 = t ∧ (sAt (spansR r) i).1 < (sAt (spansR r) i).2) ?_ ?_
    · skip
      refine TL.run1 (pure_move rfl) rfl ?_
      refine TL.run1 (pure_move rfl) rfl ?_
      refine TL.run1 (pure_eql rfl rfl) rfl ?_
      refine TL.run1 (pure_move rfl) rfl ?_
      first | refine TL.splitP 26 rfl (fun hg26 => ?_) (fun hg26 => ?_) | refine TL.split 26 rfl (fun hg26 => ?_) (fun hg26 => ?_)
      · try dsimp only at hg26
        refine TL.runG rfl rfl (pure_move rfl) rfl ?_
        refine TL.runG rfl rfl (pure_move rfl) rfl ?_
        refine TL.runG rfl rfl (pure_eql rfl rfl) rfl ?_
        refine TL.run1 (pure_pick_true rfl rfl) rfl ?_
        refine TL.run1 (pure_move rfl) rfl ?_
        first | refine TL.splitP 31 rfl (fun hg31 => ?_) (fun hg31 => ?_) | refine TL.split 31 rfl (fun hg31 => ?_) (fun hg31 => ?_)
        · try dsimp only at hg31
          refine TL.runG rfl rfl (pure_move rfl) rfl ?_
          refine TL.runG rfl rfl (pure_move rfl) rfl ?_
          refine TL.runG rfl rfl (pure_lss rfl rfl) rfl ?_
          refine TL.run1 (pure_pick_true rfl rfl) rfl ?_
          refine TL.cutEnd (by repeat (first | exact Same.refl _ _ | refine Same.put rfl ?_)) rfl ?_
          first | (simp only [decide_eq_true_eq, Bool.false_eq_true, false_iff, true_iff, iff_true, iff_false, Bool.not_eq_true]; omega) | (simp_all; done) | (simp_all; omega) | grind
        · try dsimp only at hg31
          refine TL.passG rfl rfl rfl rfl ?_
          refine TL.passG rfl rfl rfl rfl ?_
          refine TL.passG rfl rfl rfl rfl ?_
          refine TL.run1 (pure_pick_false rfl rfl) rfl ?_
          refine TL.cutEnd (by repeat (first | exact Same.refl _ _ | refine Same.put rfl ?_)) rfl ?_
          first | (simp only [decide_eq_true_eq, Bool.false_eq_true, false_iff, true_iff, iff_true, iff_false, Bool.not_eq_true]; omega) | (simp_all; done) | (simp_all; omega) | grind
      · try dsimp only at hg26
        refine TL.passG rfl rfl rfl rfl ?_
        refine TL.passG rfl rfl rfl rfl ?_
        refine TL.passG rfl rfl rfl rfl ?_
        refine TL.run1 (pure_pick_false rfl rfl) rfl ?_
        refine TL.run1 (pure_move rfl) rfl ?_
        refine TL.passG rfl rfl rfl rfl ?_
        refine TL.passG rfl rfl rfl rfl ?_
        refine TL.passG rfl rfl rfl rfl ?_
        refine TL.run1 (pure_pick_false rfl rfl) rfl ?_
        refine TL.cutEnd (by repeat (first | exact Same.refl _ _ | refine Same.put rfl ?_)) rfl ?_
        first | (simp only [decide_eq_true_eq, Bool.false_eq_true, false_iff, true_iff, iff_true, iff_false, Bool.not_eq_true]; omega) | (simp_all; done) | (simp_all; omega) | grind
    first | refine TC.condD rfl (fun hc35 => ?_) (fun hc35 => ?_) | refine TC.condN rfl (fun hc35 => ?_) (fun hc35 => ?_) | refine TC.cond rfl (fun hc35 => ?_) (fun hc35 => ?_)
    · try dsimp only at hc35
      refine TC.seq ?_
      refine TC.region ?_
      refine TL.run1 (pure_move rfl) rfl ?_
      refine TL.run1 (pure_assign rfl) rfl ?_
      refine TL.nil' ?_
      refine TC.ret ?_
      refine block_ret ?_
      refine then_ret ?_
      refine loop_ret ?_
      refine block_ret ?_
      refine then_ret ?_
      exact ret_int rfl (firstIdx_at h0 (decide_eq_true hc35) (fun j a b => decide_eq_false (h2 j a b)) (by omega)).symm
    · try dsimp only at hc35
      refine TC.skip ?_
      refine block_normal ?_
      refine then_normal ?_
      refine TC.region ?_
      refine TL.run1 (pure_move rfl) rfl ?_
      refine TL.run1 (pure_add rfl rfl (mkI64 (by omega) (by omega))) rfl ?_
      refine TL.run1 (pure_assign rfl) rfl ?_
      refine TL.nil ?_
      refine loop_next (i + 1) ⟨by repeat (first | exact Agree.nil | refine Agree.cons rfl ?_), by repeat (first | exact List.nil_sublist _ | exact List.Sublist.refl _ | apply List.Sublist.cons_cons | apply List.Sublist.cons)⟩ ⟨by omega, by omega, fun j a b => ?_⟩ (by omega)
      rcases Int.lt_or_eq_of_le (show j ≤ i by omega) with h | h
      · exact h2 j a h
      · rw [h]; exact hc35
  · try dsimp only at hc14
    refine TC.exit ?_
    refine then_exit ?_
    refine loop_exit ?_
    refine block_here ?_
    refine then_normal ?_
    refine TC.seq ?_
    refine TC.region ?_
    refine TL.run1 (pure_assign rfl) rfl ?_
    refine TL.nil' ?_
    refine TC.ret ?_
    exact ret_int rfl (firstIdx_none fun j a b => decide_eq_false (h2 j a (by omega))).symm
set_option maxRecDepth 100000 in
theorem RAt_spec (r : RowD) (hr : RowOk r) (c : Int) : Fun Try.prog 28 [.agg (encR r), .v (.int .i64 c)] (.v (.int .i64 (atN r c))) := by
  refine Fun.enter (n := 30) (rs := [.tmp 4]) Try.func28 rfl Try.ntmps28 Try.results28 rfl (fun w F => ?_)
  refine TC.seq ?_
  refine TC.region ?_
  refine TL.box rfl (.agg _) rfl (fun g2 => ?_)
  refine TL.run1 (pure_assign rfl) rfl ?_
  refine TL.nil' ?_
  refine TC.seq ?_
  refine TC.seq ?_
  refine TC.region ?_
  refine TL.run1 (pure_assign rfl) rfl ?_
  refine TL.nil' ?_
  refine TC.block ?_
  refine TC.loopX (X := Int) (fun i => [(1, .v (.int .i64 c)), (2, .v (.pointer (some ⟨g2, 0, none⟩))), (5, .v (.int .i64 i))]) (fun i => [.box g2 36 (encR r)]) (fun i => (0 ≤ i) ∧ (i ≤ r.cells.length) ∧ (∀ j : Int, 0 ≤ j → j < i → ¬ ((sAt (spansR r) j).1 ≤ c ∧ c < (sAt (spansR r) j).2))) (fun i => (r.cells.length - i).toNat) (0) ⟨by skip; repeat (first | exact Agree.nil | refine Agree.cons rfl ?_), by skip; repeat (first | exact List.nil_sublist _ | exact List.Sublist.refl _ | apply List.Sublist.cons_cons | apply List.Sublist.cons)⟩ ?_ ?_
  · skip
    exact ⟨by omega, by omega, fun j _ _ => by omega⟩
  intro i
  rintro ⟨h0, h1, h2⟩
  show TC _ _ _ (Env.of [(1, .v (.int .i64 c)), (2, .v (.pointer (some ⟨g2, 0, none⟩))), (5, .v (.int .i64 i))]) [.box g2 36 (encR r)]
  have hck := encCs_len r.cells
  have hrl := hr.2.1
  refine TC.seq ?_
  refine TC.seq ?_
  refine TC.region ?_
  refine TL.run1 (pure_move rfl) rfl ?_
  first | refine TL.run1 (pure_fieldAddr Ty.f36_1 rfl (.succ (.succ (.succ (.succ (.succ (.zero _)))))) (List.cons_ne_nil _ _)) rfl ?_ | refine TL.run1 (pure_fieldAddr_own Ty.f36_1 rfl) rfl ?_
  first | refine TL.run1 (pure_load1 Ty.one34 rfl) rfl ?_ | refine TL.run1 (pure_load1_own Ty.one34 rfl (by repeat (first | exact List.Mem.head _ | apply List.Mem.tail)) (by repeat (first | exact DropR.zero _ | apply DropR.succ))) rfl ?_
  first | refine TL.run1 (pure_len Ty.sl34 rfl) rfl ?_ | refine TL.run1 (pure_len_row Ty.sl34 rfl (by repeat (first | exact List.Mem.head _ | apply List.Mem.tail))) rfl ?_ | refine TL.run1 (pure_len_nil Ty.sl34 rfl) rfl ?_
  refine TL.run1 (pure_lss rfl rfl) rfl ?_
  refine TL.nil' ?_
  first | refine TC.condD rfl (fun hc12 => ?_) (fun hc12 => ?_) | refine TC.condN rfl (fun hc12 => ?_) (fun hc12 => ?_) | refine TC.cond rfl (fun hc12 => ?_) (fun hc12 => ?_)
  · try dsimp only at hc12
    refine TC.skip' ?_
    refine TC.seq ?_
    refine TC.block ?_
    refine TC.seq ?_
    refine TC.region ?_
    first | refine TL.run1 (pure_load Ty.agg36 rfl (.succ (.succ (.succ (.succ (.succ (.succ (.zero _)))))))) rfl ?_ | refine TL.run1 (pure_load_own Ty.agg36 rfl (by repeat (first | exact List.Mem.head _ | apply List.Mem.tail)) (by repeat (first | exact DropR.zero _ | apply DropR.succ)) (.succ (.succ (.succ (.succ (.succ (.succ (.zero _)))))))) rfl ?_
    refine TL.run1 (pure_move rfl) rfl ?_
    refine TL.run1 (pure_call (span_spec _ hr _ h0 (by omega)) (.cons rfl (.cons rfl .nil)) Try.call19) rfl ?_
    refine TL.run1 (pure_move rfl) rfl ?_
    refine TL.run1 (pure_extract rfl rfl) rfl ?_
    refine TL.run1 (pure_extract rfl rfl) rfl ?_
    refine TL.run1 (pure_assign rfl) rfl ?_
    refine TL.run1 (pure_assign rfl) rfl ?_
    refine TL.nil' ?_
    refine TC.regionCut [21, 22, 23, 24, 25, 26, 27, 28] 28 ((sAt (spansR r) i).1 ≤ c ∧ c < (sAt (spansR r) i).2) ?_ ?_
    · skip
      refine TL.run1 (pure_move rfl) rfl ?_
      refine TL.run1 (pure_move rfl) rfl ?_
      refine TL.run1 (pure_leq rfl rfl) rfl ?_
      refine TL.run1 (pure_move rfl) rfl ?_
      first | refine TL.splitP 24 rfl (fun hg24 => ?_) (fun hg24 => ?_) | refine TL.split 24 rfl (fun hg24 => ?_) (fun hg24 => ?_)
      · try dsimp only at hg24
        refine TL.runG rfl rfl (pure_move rfl) rfl ?_
        refine TL.runG rfl rfl (pure_move rfl) rfl ?_
        refine TL.runG rfl rfl (pure_lss rfl rfl) rfl ?_
        refine TL.run1 (pure_pick_true rfl rfl) rfl ?_
        refine TL.cutEnd (by repeat (first | exact Same.refl _ _ | refine Same.put rfl ?_)) rfl ?_
        first | (simp only [decide_eq_true_eq, Bool.false_eq_true, false_iff, true_iff, iff_true, iff_false, Bool.not_eq_true]; omega) | (simp_all; done) | (simp_all; omega) | grind
      · try dsimp only at hg24
        refine TL.passG rfl rfl rfl rfl ?_
        refine TL.passG rfl rfl rfl rfl ?_
        refine TL.passG rfl rfl rfl rfl ?_
        refine TL.run1 (pure_pick_false rfl rfl) rfl ?_
        refine TL.cutEnd (by repeat (first | exact Same.refl _ _ | refine Same.put rfl ?_)) rfl ?_
        first | (simp only [decide_eq_true_eq, Bool.false_eq_true, false_iff, true_iff, iff_true, iff_false, Bool.not_eq_true]; omega) | (simp_all; done) | (simp_all; omega) | grind
    first | refine TC.condD rfl (fun hc28 => ?_) (fun hc28 => ?_) | refine TC.condN rfl (fun hc28 => ?_) (fun hc28 => ?_) | refine TC.cond rfl (fun hc28 => ?_) (fun hc28 => ?_)
    · try dsimp only at hc28
      refine TC.seq ?_
      refine TC.region ?_
      refine TL.run1 (pure_move rfl) rfl ?_
      refine TL.run1 (pure_assign rfl) rfl ?_
      refine TL.nil' ?_
      refine TC.ret ?_
      refine block_ret ?_
      refine then_ret ?_
      refine loop_ret ?_
      refine block_ret ?_
      refine then_ret ?_
      exact ret_int rfl (firstIdx_at h0 (decide_eq_true hc28) (fun j a b => decide_eq_false (h2 j a b)) (by omega)).symm
    · try dsimp only at hc28
      refine TC.skip ?_
      refine block_normal ?_
      refine then_normal ?_
      refine TC.region ?_
      refine TL.run1 (pure_move rfl) rfl ?_
      refine TL.run1 (pure_add rfl rfl (mkI64 (by omega) (by omega))) rfl ?_
      refine TL.run1 (pure_assign rfl) rfl ?_
      refine TL.nil ?_
      refine loop_next (i + 1) ⟨by repeat (first | exact Agree.nil | refine Agree.cons rfl ?_), by repeat (first | exact List.nil_sublist _ | exact List.Sublist.refl _ | apply List.Sublist.cons_cons | apply List.Sublist.cons)⟩ ⟨by omega, by omega, fun j a b => ?_⟩ (by omega)
      rcases Int.lt_or_eq_of_le (show j ≤ i by omega) with h | h
      · exact h2 j a h
      · rw [h]; exact hc28
  · try dsimp only at hc12
    refine TC.exit ?_
    refine then_exit ?_
    refine loop_exit ?_
    refine block_here ?_
    refine then_normal ?_
    refine TC.seq ?_
    refine TC.region ?_
    refine TL.run1 (pure_assign rfl) rfl ?_
    refine TL.nil' ?_
    refine TC.ret ?_
    exact ret_int rfl (firstIdx_none fun j a b => decide_eq_false (h2 j a (by omega))).symm
set_option maxRecDepth 100000 in
theorem merge_spec (r : RowD) (hr : RowOk r) (k : Int) (h0 : 0 ≤ k) (h1 : k < r.cells.length) : Fun Try.prog 53 [.agg (encR r), .v (.int .i64 k)] (.v (.int .i64 (getP (cAt r.cells k).props 61 0))) := by
  refine Fun.enter (n := 13) (rs := [.tmp 4]) Try.func53 rfl Try.ntmps53 Try.results53 rfl (fun w F => ?_)
  refine TC.seq ?_
  refine TC.region ?_
  refine TL.box rfl (.agg _) rfl (fun g2 => ?_)
  refine TL.run1 (pure_assign rfl) rfl ?_
  refine TL.nil' ?_
  refine TC.seq ?_
  have hck := encCs_len r.cells
  have hrow := encCs_get r.cells k h0 (by omega)
  have hpl := (hr.1 _ (cAt_mem r.cells k h0 h1)).2
  refine TC.region ?_
  first | refine TL.run1 (pure_fieldAddr Ty.f36_1 rfl (.succ (.succ (.succ (.succ (.succ (.zero _)))))) (List.cons_ne_nil _ _)) rfl ?_ | refine TL.run1 (pure_fieldAddr_own Ty.f36_1 rfl) rfl ?_
  first | refine TL.run1 (pure_load1 Ty.one34 rfl) rfl ?_ | refine TL.run1 (pure_load1_own Ty.one34 rfl (by repeat (first | exact List.Mem.head _ | apply List.Mem.tail)) (by repeat (first | exact DropR.zero _ | apply DropR.succ))) rfl ?_
  refine TL.run1 (pure_move rfl) rfl ?_
  refine TL.run1 (pure_indexAddr Ty.sl34 rfl rfl (by omega) (by assumption) (List.cons_ne_nil _ _)) rfl ?_
  first | refine TL.run1 (pure_fieldAddr Ty.f74_1 rfl (.succ (.zero _)) (List.cons_ne_nil _ _)) rfl ?_ | refine TL.run1 (pure_fieldAddr_own Ty.f74_1 rfl) rfl ?_
  first | refine TL.run1 (pure_fieldAddr Ty.f33_0 rfl (.zero _) (List.cons_ne_nil _ _)) rfl ?_ | refine TL.run1 (pure_fieldAddr_own Ty.f33_0 rfl) rfl ?_
  first | refine TL.run1 (pure_load1 Ty.one27 rfl) rfl ?_ | refine TL.run1 (pure_load1_own Ty.one27 rfl (by repeat (first | exact List.Mem.head _ | apply List.Mem.tail)) (by repeat (first | exact DropR.zero _ | apply DropR.succ))) rfl ?_
  refine TL.run1 (pure_call (get_spec _ _ _ hpl) (.cons rfl (.cons rfl (.cons rfl .nil))) Try.call40) rfl ?_
  refine TL.run1 (pure_assign rfl) rfl ?_
  refine TL.nil' ?_
  refine TC.ret ?_
  exact ret_int rfl rfl
set_option maxRecDepth 100000 in
theorem Continues_spec (rs : List RowD) (hr : TabOk rs) (i k : Int) (he : existsN rs i k) : Fun Try.prog 54 [.sl 6 (encRs rs), .v (.int .i64 i), .v (.int .i64 k)] (.v (.bool (contB rs i k))) := by
  have hrl := hr.2
  refine Fun.enter (n := 59) (rs := [.tmp 6]) Try.func54 rfl Try.ntmps54 Try.results54 rfl (fun w F => ?_)
  obtain ⟨e0, e1, e2, e3⟩ := he
  have hk := encRs_len rs
  have hrow := encRs_get rs i (by omega) (by omega)
  have hro := hr.1 _ (rAt_mem rs i (by omega) (by omega))
  refine TC.seq ?_
  refine TC.region ?_
  refine TL.run1 (pure_assign rfl) rfl ?_
  refine TL.nil' ?_
  refine TC.seq ?_
  refine TC.region ?_
  refine TL.run1 (pure_move rfl) rfl ?_
  refine TL.run1 (pure_move rfl) rfl ?_
  refine TL.run1 (pure_indexAddr Ty.sl22 rfl rfl (by omega) (by assumption) (List.cons_ne_nil _ _)) rfl ?_
  first | refine TL.run1 (pure_load Ty.agg36 rfl (.succ (.succ (.succ (.succ (.succ (.succ (.zero _)))))))) rfl ?_ | refine TL.run1 (pure_load_own Ty.agg36 rfl (by repeat (first | exact List.Mem.head _ | apply List.Mem.tail)) (by repeat (first | exact DropR.zero _ | apply DropR.succ)) (.succ (.succ (.succ (.succ (.succ (.succ (.zero _)))))))) rfl ?_
  refine TL.run1 (pure_move rfl) rfl ?_
  refine TL.run1 (pure_call (span_spec _ hro _ (by omega) (by omega)) (.cons rfl (.cons rfl .nil)) Try.call19) rfl ?_
  refine TL.run1 (pure_move rfl) rfl ?_
  refine TL.run1 (pure_extract rfl rfl) rfl ?_
  refine TL.run1 (pure_extract rfl rfl) rfl ?_
  refine TL.run1 (pure_assign rfl) rfl ?_
  refine TL.run1 (pure_assign rfl) rfl ?_
  refine TL.nil' ?_
  refine TC.seq ?_
  refine TC.regionCut [20, 21, 22, 23, 24, 25, 26, 27, 28, 29, 30, 31, 32, 33, 34, 35] 35 (i = 0 ∨ (spN rs i k).1 = (spN rs i k).2 ∨ mgN rs i k ≠ 2) ?_ ?_
  · skip
    refine TL.run1 (pure_move rfl) rfl ?_
    refine TL.run1 (pure_eql rfl rfl) rfl ?_
    refine TL.run1 (pure_move rfl) rfl ?_
    first | refine TL.splitP 22 rfl (fun hg22 => ?_) (fun hg22 => ?_) | refine TL.split 22 rfl (fun hg22 => ?_) (fun hg22 => ?_)
    · try dsimp only at hg22
      refine TL.passG rfl rfl rfl rfl ?_
      refine TL.passG rfl rfl rfl rfl ?_
      refine TL.passG rfl rfl rfl rfl ?_
      refine TL.run1 (pure_pick_true rfl rfl) rfl ?_
      refine TL.run1 (pure_move rfl) rfl ?_
      refine TL.passG rfl rfl rfl rfl ?_
      refine TL.passG rfl rfl rfl rfl ?_
      refine TL.passG rfl rfl rfl rfl ?_
      refine TL.passG rfl rfl rfl rfl ?_
      refine TL.passG rfl rfl rfl rfl ?_
      refine TL.passG rfl rfl rfl rfl ?_
      refine TL.passG rfl rfl rfl rfl ?_
      refine TL.run1 (pure_pick_true rfl rfl) rfl ?_
      refine TL.cutEnd (by repeat (first | exact Same.refl _ _ | refine Same.put rfl ?_)) rfl ?_
      first | (simp only [spN, mgN] at *; simp_all; done) | grind [spN, mgN]
    · try dsimp only at hg22
      refine TL.runG rfl rfl (pure_move rfl) rfl ?_
      refine TL.runG rfl rfl (pure_move rfl) rfl ?_
      refine TL.runG rfl rfl (pure_eql rfl rfl) rfl ?_
      refine TL.run1 (pure_pick_false rfl rfl) rfl ?_
      refine TL.run1 (pure_move rfl) rfl ?_
      first | refine TL.splitP 27 rfl (fun hg27 => ?_) (fun hg27 => ?_) | refine TL.split 27 rfl (fun hg27 => ?_) (fun hg27 => ?_)
      · try dsimp only at hg27
        refine TL.passG rfl rfl rfl rfl ?_
        refine TL.passG rfl rfl rfl rfl ?_
        refine TL.passG rfl rfl rfl rfl ?_
        refine TL.passG rfl rfl rfl rfl ?_
        refine TL.passG rfl rfl rfl rfl ?_
        refine TL.passG rfl rfl rfl rfl ?_
        refine TL.passG rfl rfl rfl rfl ?_
        refine TL.run1 (pure_pick_true rfl rfl) rfl ?_
        refine TL.cutEnd (by repeat (first | exact Same.refl _ _ | refine Same.put rfl ?_)) rfl ?_
        first | (simp only [spN, mgN] at *; simp_all; done) | grind [spN, mgN]
      · try dsimp only at hg27
        refine TL.runG rfl rfl (pure_move rfl) rfl ?_
        refine TL.runG rfl rfl (pure_move rfl) rfl ?_
        refine TL.runG rfl rfl (pure_indexAddr Ty.sl22 rfl rfl (by omega) (by assumption) (List.cons_ne_nil _ _)) rfl ?_
        first | refine TL.runG rfl rfl (pure_load Ty.agg36 rfl (.succ (.succ (.succ (.succ (.succ (.succ (.zero _)))))))) rfl ?_ | refine TL.runG rfl rfl (pure_load_own Ty.agg36 rfl (by repeat (first | exact List.Mem.head _ | apply List.Mem.tail)) (by repeat (first | exact DropR.zero _ | apply DropR.succ)) (.succ (.succ (.succ (.succ (.succ (.succ (.zero _)))))))) rfl ?_
        refine TL.runG rfl rfl (pure_move rfl) rfl ?_
        first | refine TL.runG rfl rfl (pure_call (merge_spec _ hro _ (by omega) (by omega)) (.cons rfl (.cons rfl .nil)) Try.call53) rfl ?_ | refine TL.runG rfl rfl (pure_call (merge_spec _ hroj _ (by omega) hsl) (.cons rfl (.cons rfl .nil)) Try.call53) rfl ?_
        refine TL.runG rfl rfl (pure_neq rfl rfl) rfl ?_
        refine TL.run1 (pure_pick_false rfl rfl) rfl ?_
        refine TL.cutEnd (by repeat (first | exact Same.refl _ _ | refine Same.put rfl ?_)) rfl ?_
        first | (simp only [spN, mgN] at *; simp_all; done) | grind [spN, mgN]
  first | refine TC.condD rfl (fun hc35 => ?_) (fun hc35 => ?_) | refine TC.condN rfl (fun hc35 => ?_) (fun hc35 => ?_) | refine TC.cond rfl (fun hc35 => ?_) (fun hc35 => ?_)
  · try dsimp only at hc35
    refine TC.seq ?_
    refine TC.region ?_
    refine TL.run1 (pure_assign rfl) rfl ?_
    refine TL.nil' ?_
    refine TC.ret ?_
    refine then_ret ?_
    exact ret_bool rfl (by symm; unfold contB; rw [decide_eq_false_iff_not]; rintro ⟨a, b, c, _⟩; rcases hc35 with h | h | h <;> contradiction)
  · try dsimp only at hc35
    refine TC.skip' ?_
    refine TC.seq ?_
    have hrowj := encRs_get rs (i - 1) (by omega) (by omega)
    have hroj := hr.1 _ (rAt_mem rs (i - 1) (by omega) (by omega))
    refine TC.region ?_
    refine TL.run1 (pure_move rfl) rfl ?_
    refine TL.run1 (pure_move rfl) rfl ?_
    refine TL.run1 (pure_sub rfl rfl (mkI64 (by omega) (by omega))) rfl ?_
    refine TL.run1 (pure_indexAddr Ty.sl22 rfl rfl (by omega) (by assumption) (List.cons_ne_nil _ _)) rfl ?_
    first | refine TL.run1 (pure_load Ty.agg36 rfl (.succ (.succ (.succ (.succ (.succ (.succ (.zero _)))))))) rfl ?_ | refine TL.run1 (pure_load_own Ty.agg36 rfl (by repeat (first | exact List.Mem.head _ | apply List.Mem.tail)) (by repeat (first | exact DropR.zero _ | apply DropR.succ)) (.succ (.succ (.succ (.succ (.succ (.succ (.zero _)))))))) rfl ?_
    refine TL.run1 (pure_move rfl) rfl ?_
    refine TL.run1 (pure_move rfl) rfl ?_
    refine TL.run1 (pure_call (Same_spec _ hroj _ _) (.cons rfl (.cons rfl (.cons rfl .nil))) Try.call48) rfl ?_
    refine TL.run1 (pure_assign rfl) rfl ?_
    refine TL.nil' ?_
    refine TC.seq ?_
    refine TC.seq ?_
    refine TC.region ?_
    refine TL.run1 (pure_move rfl) rfl ?_
    refine TL.run1 (pure_lss rfl rfl) rfl ?_
    refine TL.nil' ?_
    first | refine TC.condD rfl (fun hc45 => ?_) (fun hc45 => ?_) | refine TC.condN rfl (fun hc45 => ?_) (fun hc45 => ?_) | refine TC.cond rfl (fun hc45 => ?_) (fun hc45 => ?_)
    · try dsimp only at hc45
      refine TC.seq ?_
      refine TC.region ?_
      refine TL.run1 (pure_assign rfl) rfl ?_
      refine TL.nil' ?_
      refine TC.ret ?_
      refine then_ret ?_
      exact ret_bool rfl (by symm; unfold contB; rw [decide_eq_false_iff_not]; rintro ⟨_, _, _, a, _⟩; have hq : sameN (rAt rs (i - 1)) (sAt (spansR (rAt rs i)) k).1 (sAt (spansR (rAt rs i)) k).2 < 0 := hc45; unfold spN at a; omega)
    · try dsimp only at hc45
      have hsl := sameN_lt (show 0 ≤ sameN (rAt rs (i - 1)) (sAt (spansR (rAt rs i)) k).1 (sAt (spansR (rAt rs i)) k).2 by omega)
      refine TC.skip' ?_
      refine TC.seq ?_
      refine TC.region ?_
      refine TL.run1 (pure_move rfl) rfl ?_
      refine TL.run1 (pure_move rfl) rfl ?_
      refine TL.run1 (pure_sub rfl rfl (mkI64 (by omega) (by omega))) rfl ?_
      refine TL.run1 (pure_indexAddr Ty.sl22 rfl rfl (by omega) (by assumption) (List.cons_ne_nil _ _)) rfl ?_
      first | refine TL.run1 (pure_load Ty.agg36 rfl (.succ (.succ (.succ (.succ (.succ (.succ (.zero _)))))))) rfl ?_ | refine TL.run1 (pure_load_own Ty.agg36 rfl (by repeat (first | exact List.Mem.head _ | apply List.Mem.tail)) (by repeat (first | exact DropR.zero _ | apply DropR.succ)) (.succ (.succ (.succ (.succ (.succ (.succ (.zero _)))))))) rfl ?_
      refine TL.run1 (pure_move rfl) rfl ?_
      first | refine TL.run1 (pure_call (merge_spec _ hro _ (by omega) (by omega)) (.cons rfl (.cons rfl .nil)) Try.call53) rfl ?_ | refine TL.run1 (pure_call (merge_spec _ hroj _ (by omega) hsl) (.cons rfl (.cons rfl .nil)) Try.call53) rfl ?_
      refine TL.run1 (pure_assign rfl) rfl ?_
      refine TL.nil' ?_
      refine TC.regionCut [53, 54, 55, 56, 57, 58, 6] 6 (mgN rs (i - 1) (sameN (rAt rs (i - 1)) (spN rs i k).1 (spN rs i k).2) = 1 ∨ mgN rs (i - 1) (sameN (rAt rs (i - 1)) (spN rs i k).1 (spN rs i k).2) = 2) ?_ ?_
      · skip
        refine TL.run1 (pure_move rfl) rfl ?_
        refine TL.run1 (pure_eql rfl rfl) rfl ?_
        refine TL.run1 (pure_move rfl) rfl ?_
        first | refine TL.splitP 55 rfl (fun hg55 => ?_) (fun hg55 => ?_) | refine TL.split 55 rfl (fun hg55 => ?_) (fun hg55 => ?_)
        · try dsimp only at hg55
          refine TL.passG rfl rfl rfl rfl ?_
          refine TL.passG rfl rfl rfl rfl ?_
          refine TL.run1 (pure_pick_true rfl rfl) rfl ?_
          refine TL.run1 (pure_assign rfl) rfl ?_
          refine TL.cutEnd (by repeat (first | exact Same.refl _ _ | refine Same.put rfl ?_)) rfl ?_
          first | (simp only [spN, mgN] at *; simp_all; done) | grind [spN, mgN]
        · try dsimp only at hg55
          refine TL.runG rfl rfl (pure_move rfl) rfl ?_
          refine TL.runG rfl rfl (pure_eql rfl rfl) rfl ?_
          refine TL.run1 (pure_pick_false rfl rfl) rfl ?_
          refine TL.run1 (pure_assign rfl) rfl ?_
          refine TL.cutEnd (by repeat (first | exact Same.refl _ _ | refine Same.put rfl ?_)) rfl ?_
          first | (simp only [spN, mgN] at *; simp_all; done) | grind [spN, mgN]
      refine TC.ret ?_
      exact ret_bool rfl (by unfold contB; rw [decide_eq_decide]; have hq : ¬ sameN (rAt rs (i - 1)) (sAt (spansR (rAt rs i)) k).1 (sAt (spansR (rAt rs i)) k).2 < 0 := hc45; constructor; intro h; refine ⟨fun e => hc35 (.inl e), fun e => hc35 (.inr (.inl e)), Decidable.not_not.1 fun e => hc35 (.inr (.inr e)), by unfold spN; omega, h⟩; rintro ⟨_, _, _, _, h⟩; exact h)
end Go.Ob
