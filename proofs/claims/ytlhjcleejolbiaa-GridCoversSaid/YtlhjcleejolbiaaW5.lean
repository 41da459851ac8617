import Derived.Test.YtlhjcleejolbiaaW3
import Derived.Test.YtlhjcleejolbiaaN4
set_option linter.unusedVariables false
set_option linter.unusedSimpArgs false
namespace Go.Ob
open Go.Proofs

theorem widthN_le (rs : List RowD) : ∀ i, widthN rs i ≤ 32
  | 0 => by simp [widthN]
  | i + 1 => by
    have := widthN_le rs i
    have := sp_range (rAt rs i) (rAt rs i).cells.length (by omega) (Int.le_refl _)
    unfold widthN; omega
theorem row_true {r : RowD} {w : Int} (h1 : r.cells.length = 0 ∨ (sAt (spansR r) (r.cells.length - 1)).1 ≠ (sAt (spansR r) (r.cells.length - 1)).2) (h2 : spTo r r.cells.length = w) : rowB r w = true := decide_eq_true ⟨h1, h2⟩
theorem spTo_last (r : RowD) (h : r.cells.length ≠ 0) : spTo r r.cells.length = (sAt (spansR r) (r.cells.length - 1)).2 := by unfold spTo; rw [if_neg (by omega)]
set_option maxRecDepth 100000 in
theorem GRegular_spec (rs : List RowD) (hr : TabOk rs) : Fun Try.prog 23 [.sl 6 (encRs rs)] (.v (.bool (regTo rs (widthN rs rs.length) rs.length))) := by
  have hrl0 := hr.2
  refine Fun.enter (n := 36) (rs := [.tmp 2]) Try.func23 rfl Try.ntmps23 Try.results23 rfl (fun w F => ?_)
  refine TC.seq ?_
  refine TC.region ?_
  refine TL.run1 (pure_assign rfl) rfl ?_
  refine TL.nil' ?_
  refine TC.seq ?_
  refine TC.region ?_
  refine TL.run1 (pure_move rfl) rfl ?_
  refine TL.run1 (pure_call (Columns_spec _ hr) (.cons rfl .nil) Try.call17) rfl ?_
  refine TL.run1 (pure_assign rfl) rfl ?_
  refine TL.nil' ?_
  refine TC.seq ?_
  refine TC.seq ?_
  refine TC.region ?_
  refine TL.run1 (pure_move rfl) rfl ?_
  first | refine TL.run1 (pure_len Ty.sl22 rfl) rfl ?_ | refine TL.run1 (pure_len_row Ty.sl22 rfl (by repeat (first | exact List.Mem.head _ | apply List.Mem.tail))) rfl ?_ | refine TL.run1 (pure_len_nil Ty.sl22 rfl) rfl ?_
  refine TL.run1 (pure_move rfl) rfl ?_
  refine TL.nil' ?_
  refine TC.block ?_
  refine TC.loopX (X := Int) (fun i => [(3, .v (.int .i64 (widthN rs rs.length))), (11, .sl 6 (encRs rs)), (12, .v (.int .i64 rs.length)), (13, .v (.int .i64 i))]) (fun i => []) (fun i => (0 ≤ i) ∧ (i ≤ rs.length) ∧ (∀ j : Int, 0 ≤ j → j < i → rowB (rAt rs j) (widthN rs rs.length) = true)) (fun i => (rs.length - i).toNat) (0) ⟨by rw [encRs_len]; repeat (first | exact Agree.nil | refine Agree.cons rfl ?_), by skip; repeat (first | exact List.nil_sublist _ | exact List.Sublist.refl _ | apply List.Sublist.cons_cons | apply List.Sublist.cons)⟩ ?_ ?_
  · skip
    exact ⟨by omega, by omega, fun j _ _ => by omega⟩
  intro i
  rintro ⟨h0, h1, h2⟩
  show TC _ _ _ (Env.of [(3, .v (.int .i64 (widthN rs rs.length))), (11, .sl 6 (encRs rs)), (12, .v (.int .i64 rs.length)), (13, .v (.int .i64 i))]) []
  refine TC.seq ?_
  refine TC.region ?_
  refine TL.run1 (pure_lss rfl rfl) rfl ?_
  refine TL.nil' ?_
  refine TC.seq ?_
  first | refine TC.condD rfl (fun hc14 => ?_) (fun hc14 => ?_) | refine TC.condN rfl (fun hc14 => ?_) (fun hc14 => ?_) | refine TC.cond rfl (fun hc14 => ?_) (fun hc14 => ?_)
  · try dsimp only at hc14
    refine TC.skip' ?_
    refine TC.seq ?_
    refine TC.block ?_
    refine TC.seq ?_
    have hk := encRs_len rs
    have hrow := encRs_get rs i (by omega) (by omega)
    have hro := hr.1 _ (rAt_mem rs i (by omega) (by omega))
    have hrl := hro.2.1
    refine TC.region ?_
    refine TL.run1 (pure_indexAddr Ty.sl22 rfl rfl (by omega) (by assumption) (List.cons_ne_nil _ _)) rfl ?_
    first | refine TL.run1 (pure_load Ty.agg36 rfl (.succ (.succ (.succ (.succ (.succ (.succ (.zero _)))))))) rfl ?_ | refine TL.run1 (pure_load_own Ty.agg36 rfl (by repeat (first | exact List.Mem.head _ | apply List.Mem.tail)) (by repeat (first | exact DropR.zero _ | apply DropR.succ)) (.succ (.succ (.succ (.succ (.succ (.succ (.zero _)))))))) rfl ?_
    refine TL.alloc Ty.zero36 rfl (fun g5 => ?_)
    refine TL.store rfl rfl (.agg _) Try.sizeOf36 rfl (by repeat (first | exact UpdR.here _ | apply UpdR.there)) (by repeat (first | exact PutR.nil _ | apply PutR.here | apply PutR.skip)) ?_
    refine TL.nil' ?_
    refine TC.seq ?_
    refine TC.region ?_
    refine TL.run1 (pure_assign rfl) rfl ?_
    refine TL.nil' ?_
    refine TC.seq ?_
    refine TC.seq ?_
    refine TC.region ?_
    first | refine TL.run1 (pure_load Ty.agg36 rfl (.succ (.succ (.succ (.succ (.succ (.succ (.zero _)))))))) rfl ?_ | refine TL.run1 (pure_load_own Ty.agg36 rfl (by repeat (first | exact List.Mem.head _ | apply List.Mem.tail)) (by repeat (first | exact DropR.zero _ | apply DropR.succ)) (.succ (.succ (.succ (.succ (.succ (.succ (.zero _)))))))) rfl ?_
    refine TL.run1 (pure_call (spans_spec _ hro) (.cons rfl .nil) Try.call39) rfl ?_
    first | refine TL.run1 (pure_len Ty.sl44 rfl) rfl ?_ | refine TL.run1 (pure_len_row Ty.sl44 rfl (by repeat (first | exact List.Mem.head _ | apply List.Mem.tail))) rfl ?_ | refine TL.run1 (pure_len_nil Ty.sl44 rfl) rfl ?_
    refine TL.run1 (pure_move rfl) rfl ?_
    refine TL.nil' ?_
    refine TC.block ?_
    refine TC.loopX (X := Int) (fun k => [(3, .v (.int .i64 (widthN rs rs.length))), (11, .sl 6 (encRs rs)), (12, .v (.int .i64 rs.length)), (13, .v (.int .i64 i)), (18, .sl 2 (encS (spansR (rAt rs i)))), (19, .v (.int .i64 (spansR (rAt rs i)).length)), (20, .v (.int .i64 k)), (6, .v (.int .i64 (spTo (rAt rs i) k)))]) (fun k => []) (fun k => (0 ≤ k) ∧ (k ≤ (spansR (rAt rs i)).length) ∧ (∀ j : Int, 0 ≤ j → j < k → (sAt (spansR (rAt rs i)) j).1 ≠ (sAt (spansR (rAt rs i)) j).2)) (fun k => ((spansR (rAt rs i)).length - k).toNat) (0) ⟨by rw [encS_len]; repeat (first | exact Agree.nil | refine Agree.cons rfl ?_), by skip; repeat (first | exact List.nil_sublist _ | exact List.Sublist.refl _ | apply List.Sublist.cons_cons | apply List.Sublist.cons)⟩ ?_ ?_
    · skip
      exact ⟨by omega, by omega, fun j _ _ => by omega⟩
    intro k
    rintro ⟨k0, k1, k2⟩
    show TC _ _ _ (Env.of [(3, .v (.int .i64 (widthN rs rs.length))), (11, .sl 6 (encRs rs)), (12, .v (.int .i64 rs.length)), (13, .v (.int .i64 i)), (18, .sl 2 (encS (spansR (rAt rs i)))), (19, .v (.int .i64 (spansR (rAt rs i)).length)), (20, .v (.int .i64 k)), (6, .v (.int .i64 (spTo (rAt rs i) k)))]) []
    have hsl : (spansR (rAt rs i)).length = (rAt rs i).cells.length := spansFrom_len _ _
    have hsk := encS_len (spansR (rAt rs i))
    refine TC.seq ?_
    refine TC.region ?_
    refine TL.run1 (pure_lss rfl rfl) rfl ?_
    refine TL.nil' ?_
    refine TC.seq ?_
    first | refine TC.condD rfl (fun hc21 => ?_) (fun hc21 => ?_) | refine TC.condN rfl (fun hc21 => ?_) (fun hc21 => ?_) | refine TC.cond rfl (fun hc21 => ?_) (fun hc21 => ?_)
    · try dsimp only at hc21
      refine TC.skip' ?_
      refine TC.seq ?_
      refine TC.block ?_
      refine TC.seq ?_
      have hcell := encS_get (spansR (rAt rs i)) k k0 (by omega)
      refine TC.region ?_
      refine TL.run1 (pure_indexAddr Ty.sl44 rfl rfl (by omega) (by assumption) (List.cons_ne_nil _ _)) rfl ?_
      first | refine TL.run1 (pure_load Ty.agg51 rfl (.succ (.succ (.zero _)))) rfl ?_ | refine TL.run1 (pure_load_own Ty.agg51 rfl (by repeat (first | exact List.Mem.head _ | apply List.Mem.tail)) (by repeat (first | exact DropR.zero _ | apply DropR.succ)) (.succ (.succ (.zero _)))) rfl ?_
      refine TL.alloc Ty.zero51 rfl (fun g8 => ?_)
      refine TL.store rfl rfl (.agg _) Try.sizeOf51 rfl (by repeat (first | exact UpdR.here _ | apply UpdR.there)) (by repeat (first | exact PutR.nil _ | apply PutR.here | apply PutR.skip)) ?_
      refine TL.nil' ?_
      refine TC.seq ?_
      refine TC.seq ?_
      refine TC.region ?_
      first | refine TL.run1 (pure_fieldAddr Ty.f51_0 rfl (.zero _) (List.cons_ne_nil _ _)) rfl ?_ | refine TL.run1 (pure_fieldAddr_own Ty.f51_0 rfl) rfl ?_
      first | refine TL.run1 (pure_load1 Ty.one3 rfl) rfl ?_ | refine TL.run1 (pure_load1_own Ty.one3 rfl (by repeat (first | exact List.Mem.head _ | apply List.Mem.tail)) (by repeat (first | exact DropR.zero _ | apply DropR.succ))) rfl ?_
      first | refine TL.run1 (pure_fieldAddr Ty.f51_1 rfl (.succ (.zero _)) (List.cons_ne_nil _ _)) rfl ?_ | refine TL.run1 (pure_fieldAddr_own Ty.f51_1 rfl) rfl ?_
      first | refine TL.run1 (pure_load1 Ty.one3 rfl) rfl ?_ | refine TL.run1 (pure_load1_own Ty.one3 rfl (by repeat (first | exact List.Mem.head _ | apply List.Mem.tail)) (by repeat (first | exact DropR.zero _ | apply DropR.succ))) rfl ?_
      refine TL.run1 (pure_eql rfl rfl) rfl ?_
      refine TL.nil' ?_
      first | refine TC.condD rfl (fun hc28 => ?_) (fun hc28 => ?_) | refine TC.condN rfl (fun hc28 => ?_) (fun hc28 => ?_) | refine TC.cond rfl (fun hc28 => ?_) (fun hc28 => ?_)
      · try dsimp only at hc28
        refine TC.seq ?_
        refine TC.region ?_
        refine TL.run1 (pure_assign rfl) rfl ?_
        refine TL.nil' ?_
        refine TC.ret ?_
        refine then_ret ?_
        refine block_ret ?_
        refine then_ret ?_
        refine loop_ret ?_
        refine block_ret ?_
        refine then_ret ?_
        refine block_ret ?_
        refine then_ret ?_
        refine loop_ret ?_
        refine block_ret ?_
        refine then_ret ?_
        have hrf : rowB (rAt rs i) (widthN rs rs.length) = false := by (unfold rowB; rw [decide_eq_false_iff_not]; rintro ⟨a, _⟩; have := empty_last (rAt rs i) k k0 (by omega) hc28; omega)
        exact ret_bool rfl (regTo_false h0 hrf (by omega)).symm
      · try dsimp only at hc28
        refine TC.skip' ?_
        refine TC.region ?_
        first | refine TL.run1 (pure_fieldAddr Ty.f51_1 rfl (.succ (.zero _)) (List.cons_ne_nil _ _)) rfl ?_ | refine TL.run1 (pure_fieldAddr_own Ty.f51_1 rfl) rfl ?_
        first | refine TL.run1 (pure_load1 Ty.one3 rfl) rfl ?_ | refine TL.run1 (pure_load1_own Ty.one3 rfl (by repeat (first | exact List.Mem.head _ | apply List.Mem.tail)) (by repeat (first | exact DropR.zero _ | apply DropR.succ))) rfl ?_
        refine TL.run1 (pure_assign rfl) rfl ?_
        refine TL.nil ?_
        refine block_normal ?_
        refine then_normal ?_
        refine TC.region ?_
        refine TL.run1 (pure_add rfl rfl (mkI64 (by omega) (by omega))) rfl ?_
        refine TL.run1 (pure_move rfl) rfl ?_
        refine TL.nil ?_
        refine loop_next (k + 1) ⟨by rw [spTo_succ (rAt rs i) k k0]; repeat (first | exact Agree.nil | refine Agree.cons rfl ?_), by repeat (first | exact List.nil_sublist _ | exact List.Sublist.refl _ | apply List.Sublist.cons_cons | apply List.Sublist.cons)⟩ ⟨by omega, by omega, fun j a b => ?_⟩ (by omega)
        rcases Int.lt_or_eq_of_le (show j ≤ k by omega) with h | h
        · exact k2 j a h
        · rw [h]; exact hc28
    · try dsimp only at hc21
      refine TC.exit ?_
      refine then_exit ?_
      refine loop_exit ?_
      refine block_here ?_
      refine then_normal ?_
      refine TC.seq ?_
      refine TC.region ?_
      refine TL.run1 (pure_move rfl) rfl ?_
      refine TL.run1 (pure_move rfl) rfl ?_
      refine TL.run1 (pure_neq rfl rfl) rfl ?_
      refine TL.nil' ?_
      first | refine TC.condD rfl (fun hc34 => ?_) (fun hc34 => ?_) | refine TC.condN rfl (fun hc34 => ?_) (fun hc34 => ?_) | refine TC.cond rfl (fun hc34 => ?_) (fun hc34 => ?_)
      · try dsimp only at hc34
        refine TC.seq ?_
        refine TC.region ?_
        refine TL.run1 (pure_assign rfl) rfl ?_
        refine TL.nil' ?_
        refine TC.ret ?_
        refine block_ret ?_
        refine then_ret ?_
        refine loop_ret ?_
        refine block_ret ?_
        refine then_ret ?_
        have hrf : rowB (rAt rs i) (widthN rs rs.length) = false := by (unfold rowB; rw [decide_eq_false_iff_not]; rintro ⟨_, a⟩; rw [show (((rAt rs i).cells.length : Nat) : Int) = k by omega] at a; exact hc34 a)
        exact ret_bool rfl (regTo_false h0 hrf (by omega)).symm
      · try dsimp only at hc34
        refine TC.skip ?_
        refine block_normal ?_
        refine then_normal ?_
        refine TC.region ?_
        refine TL.run1 (pure_add rfl rfl (mkI64 (by omega) (by omega))) rfl ?_
        refine TL.run1 (pure_move rfl) rfl ?_
        refine TL.nil ?_
        refine loop_next (i + 1) ⟨by repeat (first | exact Agree.nil | refine Agree.cons rfl ?_), by repeat (first | exact List.nil_sublist _ | exact List.Sublist.refl _ | apply List.Sublist.cons_cons | apply List.Sublist.cons)⟩ ⟨by omega, by omega, fun j a b => ?_⟩ (by omega)
        rcases Int.lt_or_eq_of_le (show j ≤ i by omega) with h | h
        · exact h2 j a h
        · rw [h]; exact row_true (by rcases Nat.eq_zero_or_pos (rAt rs i).cells.length with h | h; exact .inl h; exact .inr (k2 _ (by omega) (by omega))) (by have := Decidable.not_not.1 hc34; rw [show (((rAt rs i).cells.length : Nat) : Int) = k by omega]; exact this)
  · try dsimp only at hc14
    refine TC.exit ?_
    refine then_exit ?_
    refine loop_exit ?_
    refine block_here ?_
    refine then_normal ?_
    refine TC.seq ?_
    refine TC.region ?_
    refine TL.run1 (pure_assign rfl) rfl ?_
    refine TL.nil' ?_
    refine TC.ret ?_
    exact ret_bool rfl (regTo_true fun j a b => h2 j a (by omega)).symm
set_option maxRecDepth 100000 in
theorem RRegular_spec (rs : List RowD) (hr : TabOk rs) : Fun Try.prog 24 [.sl 6 (encRs rs)] (.v (.bool (regTo rs (widthN rs rs.length) rs.length))) := by
  have hrl0 := hr.2
  refine Fun.enter (n := 44) (rs := [.tmp 2]) Try.func24 rfl Try.ntmps24 Try.results24 rfl (fun w F => ?_)
  refine TC.seq ?_
  refine TC.region ?_
  refine TL.run1 (pure_assign rfl) rfl ?_
  refine TL.nil' ?_
  refine TC.seq ?_
  refine TC.region ?_
  refine TL.run1 (pure_move rfl) rfl ?_
  refine TL.run1 (pure_call (Width_spec _ hr) (.cons rfl .nil) Try.call18) rfl ?_
  refine TL.run1 (pure_assign rfl) rfl ?_
  refine TL.nil' ?_
  refine TC.seq ?_
  refine TC.seq ?_
  refine TC.region ?_
  refine TL.run1 (pure_assign rfl) rfl ?_
  refine TL.nil' ?_
  refine TC.block ?_
  refine TC.loopX (X := Int) (fun i => [(0, .sl 6 (encRs rs)), (3, .v (.int .i64 (widthN rs rs.length))), (4, .v (.int .i64 i))]) (fun i => []) (fun i => (0 ≤ i) ∧ (i ≤ rs.length) ∧ (∀ j : Int, 0 ≤ j → j < i → rowB (rAt rs j) (widthN rs rs.length) = true)) (fun i => (rs.length - i).toNat) (0) ⟨by skip; repeat (first | exact Agree.nil | refine Agree.cons rfl ?_), by skip; repeat (first | exact List.nil_sublist _ | exact List.Sublist.refl _ | apply List.Sublist.cons_cons | apply List.Sublist.cons)⟩ ?_ ?_
  · skip
    exact ⟨by omega, by omega, fun j _ _ => by omega⟩
  intro i
  rintro ⟨h0, h1, h2⟩
  show TC _ _ _ (Env.of [(0, .sl 6 (encRs rs)), (3, .v (.int .i64 (widthN rs rs.length))), (4, .v (.int .i64 i))]) []
  have hk := encRs_len rs
  refine TC.seq ?_
  refine TC.seq ?_
  refine TC.region ?_
  refine TL.run1 (pure_move rfl) rfl ?_
  refine TL.run1 (pure_move rfl) rfl ?_
  first | refine TL.run1 (pure_len Ty.sl22 rfl) rfl ?_ | refine TL.run1 (pure_len_row Ty.sl22 rfl (by repeat (first | exact List.Mem.head _ | apply List.Mem.tail))) rfl ?_ | refine TL.run1 (pure_len_nil Ty.sl22 rfl) rfl ?_
  refine TL.run1 (pure_lss rfl rfl) rfl ?_
  refine TL.nil' ?_
  first | refine TC.condD rfl (fun hc13 => ?_) (fun hc13 => ?_) | refine TC.condN rfl (fun hc13 => ?_) (fun hc13 => ?_) | refine TC.cond rfl (fun hc13 => ?_) (fun hc13 => ?_)
  · try dsimp only at hc13
    refine TC.skip' ?_
    refine TC.seq ?_
    refine TC.block ?_
    refine TC.seq ?_
    have hrow := encRs_get rs i (by omega) (by omega)
    have hro := hr.1 _ (rAt_mem rs i (by omega) (by omega))
    have hrl := hro.2.1
    have hck := encCs_len (rAt rs i).cells
    refine TC.region ?_
    refine TL.run1 (pure_move rfl) rfl ?_
    refine TL.run1 (pure_move rfl) rfl ?_
    refine TL.run1 (pure_indexAddr Ty.sl22 rfl rfl (by omega) (by assumption) (List.cons_ne_nil _ _)) rfl ?_
    first | refine TL.run1 (pure_fieldAddr Ty.f36_1 rfl (.succ (.succ (.succ (.succ (.succ (.zero _)))))) (List.cons_ne_nil _ _)) rfl ?_ | refine TL.run1 (pure_fieldAddr_own Ty.f36_1 rfl) rfl ?_
    first | refine TL.run1 (pure_load1 Ty.one34 rfl) rfl ?_ | refine TL.run1 (pure_load1_own Ty.one34 rfl (by repeat (first | exact List.Mem.head _ | apply List.Mem.tail)) (by repeat (first | exact DropR.zero _ | apply DropR.succ))) rfl ?_
    first | refine TL.run1 (pure_len Ty.sl34 rfl) rfl ?_ | refine TL.run1 (pure_len_row Ty.sl34 rfl (by repeat (first | exact List.Mem.head _ | apply List.Mem.tail))) rfl ?_ | refine TL.run1 (pure_len_nil Ty.sl34 rfl) rfl ?_
    refine TL.run1 (pure_assign rfl) rfl ?_
    refine TL.nil' ?_
    refine TC.seq ?_
    refine TC.seq ?_
    refine TC.region ?_
    refine TL.run1 (pure_move rfl) rfl ?_
    refine TL.run1 (pure_eql rfl rfl) rfl ?_
    refine TL.nil' ?_
    first | refine TC.condD rfl (fun hc23 => ?_) (fun hc23 => ?_) | refine TC.condN rfl (fun hc23 => ?_) (fun hc23 => ?_) | refine TC.cond rfl (fun hc23 => ?_) (fun hc23 => ?_)
    · try dsimp only at hc23
      refine TC.seq ?_
      refine TC.seq ?_
      refine TC.region ?_
      refine TL.run1 (pure_move rfl) rfl ?_
      refine TL.run1 (pure_gtr rfl rfl) rfl ?_
      refine TL.nil' ?_
      first | refine TC.condD rfl (fun hc25 => ?_) (fun hc25 => ?_) | refine TC.condN rfl (fun hc25 => ?_) (fun hc25 => ?_) | refine TC.cond rfl (fun hc25 => ?_) (fun hc25 => ?_)
      · try dsimp only at hc25
        refine TC.seq ?_
        refine TC.region ?_
        refine TL.run1 (pure_assign rfl) rfl ?_
        refine TL.nil' ?_
        refine TC.ret ?_
        refine then_ret ?_
        refine then_ret ?_
        refine block_ret ?_
        refine then_ret ?_
        refine loop_ret ?_
        refine block_ret ?_
        refine then_ret ?_
        have hrf : rowB (rAt rs i) (widthN rs rs.length) = false := by (unfold rowB; rw [decide_eq_false_iff_not]; rintro ⟨_, a⟩; rw [show (rAt rs i).cells.length = 0 by omega] at a; have a2 : (0 : Int) = (widthN rs rs.length) := a; omega)
        exact ret_bool rfl (regTo_false h0 hrf (by omega)).symm
      · try dsimp only at hc25
        refine TC.skip' ?_
        refine TC.exit ?_
        refine then_exit ?_
        refine block_here ?_
        refine then_normal ?_
        refine TC.region ?_
        refine TL.run1 (pure_move rfl) rfl ?_
        refine TL.run1 (pure_add rfl rfl (mkI64 (by omega) (by omega))) rfl ?_
        refine TL.run1 (pure_assign rfl) rfl ?_
        refine TL.nil ?_
        refine loop_next (i + 1) ⟨by repeat (first | exact Agree.nil | refine Agree.cons rfl ?_), by repeat (first | exact List.nil_sublist _ | exact List.Sublist.refl _ | apply List.Sublist.cons_cons | apply List.Sublist.cons)⟩ ⟨by omega, by omega, fun j a b => ?_⟩ (by omega)
        rcases Int.lt_or_eq_of_le (show j ≤ i by omega) with h | h
        · exact h2 j a h
        · rw [h]; exact row_true (.inl (by omega)) (by have h1 := widthN_nonneg rs rs.length; rw [show (rAt rs i).cells.length = 0 by omega]; show (0 : Int) = _; omega)
    · try dsimp only at hc23
      refine TC.skip' ?_
      refine TC.seq ?_
      refine TC.region ?_
      refine TL.run1 (pure_move rfl) rfl ?_
      refine TL.run1 (pure_move rfl) rfl ?_
      refine TL.run1 (pure_indexAddr Ty.sl22 rfl rfl (by omega) (by assumption) (List.cons_ne_nil _ _)) rfl ?_
      first | refine TL.run1 (pure_load Ty.agg36 rfl (.succ (.succ (.succ (.succ (.succ (.succ (.zero _)))))))) rfl ?_ | refine TL.run1 (pure_load_own Ty.agg36 rfl (by repeat (first | exact List.Mem.head _ | apply List.Mem.tail)) (by repeat (first | exact DropR.zero _ | apply DropR.succ)) (.succ (.succ (.succ (.succ (.succ (.succ (.zero _)))))))) rfl ?_
      refine TL.run1 (pure_move rfl) rfl ?_
      refine TL.run1 (pure_sub rfl rfl (mkI64 (by omega) (by omega))) rfl ?_
      refine TL.run1 (pure_call (span_spec _ hro (((encCs (rAt rs i).cells).length : Int) - 1) (by omega) (by omega)) (.cons rfl (.cons rfl .nil)) Try.call19) rfl ?_
      refine TL.run1 (pure_move rfl) rfl ?_
      refine TL.run1 (pure_extract rfl rfl) rfl ?_
      refine TL.run1 (pure_extract rfl rfl) rfl ?_
      refine TL.run1 (pure_assign rfl) rfl ?_
      refine TL.run1 (pure_assign rfl) rfl ?_
      refine TL.nil' ?_
      rw [show ((encCs (rAt rs i).cells).length : Int) = (rAt rs i).cells.length by omega]
      refine TC.regionCut [36, 37, 38, 39, 40, 41, 42, 43] 43 ((sAt (spansR (rAt rs i)) ((rAt rs i).cells.length - 1)).1 = (sAt (spansR (rAt rs i)) ((rAt rs i).cells.length - 1)).2 ∨ (sAt (spansR (rAt rs i)) ((rAt rs i).cells.length - 1)).2 ≠ (widthN rs rs.length)) ?_ ?_
      · skip
        refine TL.run1 (pure_move rfl) rfl ?_
        refine TL.run1 (pure_move rfl) rfl ?_
        refine TL.run1 (pure_eql rfl rfl) rfl ?_
        refine TL.run1 (pure_move rfl) rfl ?_
        first | refine TL.splitP 39 rfl (fun hg39 => ?_) (fun hg39 => ?_) | refine TL.split 39 rfl (fun hg39 => ?_) (fun hg39 => ?_)
        · try dsimp only at hg39
          refine TL.passG rfl rfl rfl rfl ?_
          refine TL.passG rfl rfl rfl rfl ?_
          refine TL.passG rfl rfl rfl rfl ?_
          refine TL.run1 (pure_pick_true rfl rfl) rfl ?_
          refine TL.cutEnd (by repeat (first | exact Same.refl _ _ | refine Same.put rfl ?_)) rfl ?_
          first | (simp only [decide_eq_true_eq, Bool.false_eq_true, false_iff, true_iff, iff_true, iff_false, Bool.not_eq_true]; omega) | (simp_all; done) | (simp_all; omega) | grind
        · try dsimp only at hg39
          refine TL.runG rfl rfl (pure_move rfl) rfl ?_
          refine TL.runG rfl rfl (pure_move rfl) rfl ?_
          refine TL.runG rfl rfl (pure_neq rfl rfl) rfl ?_
          refine TL.run1 (pure_pick_false rfl rfl) rfl ?_
          refine TL.cutEnd (by repeat (first | exact Same.refl _ _ | refine Same.put rfl ?_)) rfl ?_
          first | (simp only [decide_eq_true_eq, Bool.false_eq_true, false_iff, true_iff, iff_true, iff_false, Bool.not_eq_true]; omega) | (simp_all; done) | (simp_all; omega) | grind
      first | refine TC.condD rfl (fun hc43 => ?_) (fun hc43 => ?_) | refine TC.condN rfl (fun hc43 => ?_) (fun hc43 => ?_) | refine TC.cond rfl (fun hc43 => ?_) (fun hc43 => ?_)
      · try dsimp only at hc43
        refine TC.seq ?_
        refine TC.region ?_
        refine TL.run1 (pure_assign rfl) rfl ?_
        refine TL.nil' ?_
        refine TC.ret ?_
        refine block_ret ?_
        refine then_ret ?_
        refine loop_ret ?_
        refine block_ret ?_
        refine then_ret ?_
        have hrf : rowB (rAt rs i) (widthN rs rs.length) = false := by (unfold rowB; rw [decide_eq_false_iff_not]; rintro ⟨a, b⟩; rw [spTo_last (rAt rs i) (by omega)] at b; rcases hc43 with h | h; (rcases a with a | a; omega; exact a h); exact h b)
        exact ret_bool rfl (regTo_false h0 hrf (by omega)).symm
      · try dsimp only at hc43
        refine TC.skip ?_
        refine block_normal ?_
        refine then_normal ?_
        refine TC.region ?_
        refine TL.run1 (pure_move rfl) rfl ?_
        refine TL.run1 (pure_add rfl rfl (mkI64 (by omega) (by omega))) rfl ?_
        refine TL.run1 (pure_assign rfl) rfl ?_
        refine TL.nil ?_
        refine loop_next (i + 1) ⟨by repeat (first | exact Agree.nil | refine Agree.cons rfl ?_), by repeat (first | exact List.nil_sublist _ | exact List.Sublist.refl _ | apply List.Sublist.cons_cons | apply List.Sublist.cons)⟩ ⟨by omega, by omega, fun j a b => ?_⟩ (by omega)
        rcases Int.lt_or_eq_of_le (show j ≤ i by omega) with h | h
        · exact h2 j a h
        · rw [h]; exact row_true (.inr fun e => hc43 (.inl e)) (by rw [spTo_last (rAt rs i) (by omega)]; exact Decidable.not_not.1 fun e => hc43 (.inr e))
  · try dsimp only at hc13
    refine TC.exit ?_
    refine then_exit ?_
    refine loop_exit ?_
    refine block_here ?_
    refine then_normal ?_
    refine TC.seq ?_
    refine TC.region ?_
    refine TL.run1 (pure_assign rfl) rfl ?_
    refine TL.nil' ?_
    refine TC.ret ?_
    exact ret_bool rfl (regTo_true fun j a b => h2 j a (by omega)).symm
set_option maxRecDepth 100000 in
theorem GridRegular_spec (rs : List RowD) : Fun Try.prog 6 [.sl 6 (encRs rs)] (.v (.bool true)) := by
  refine Fun.enter (n := 69) (rs := [.tmp 2]) Try.func6 rfl Try.ntmps6 Try.results6 rfl (fun w F => ?_)
  have hk := encRs_len rs
  refine TC.seq ?_
  refine TC.region ?_
  refine TL.run1 (pure_assign rfl) rfl ?_
  refine TL.nil' ?_
  refine TC.seq ?_
  refine TC.regionCut [7, 8, 9, 10, 11, 12, 13] 13 (smallB rs = false) ?_ ?_
  · skip
    refine TL.run1 (pure_call (known_spec) .nil Try.call12) rfl ?_
    refine TL.run1 (pure_not rfl) rfl ?_
    refine TL.run1 (pure_move rfl) rfl ?_
    first | refine TL.splitP 9 rfl (fun hg9 => ?_) (fun hg9 => ?_) | refine TL.split 9 rfl (fun hg9 => ?_) (fun hg9 => ?_)
    · try dsimp only at hg9
      refine TL.passG rfl rfl rfl rfl ?_
      refine TL.passG rfl rfl rfl rfl ?_
      refine TL.passG rfl rfl rfl rfl ?_
      refine TL.run1 (pure_pick_true rfl rfl) rfl ?_
      refine TL.cutEnd (by repeat (first | exact Same.refl _ _ | refine Same.put rfl ?_)) rfl ?_
      first | (simp only [decide_eq_true_eq, Bool.false_eq_true, false_iff, true_iff, iff_true, iff_false, Bool.not_eq_true]; omega) | (simp_all; done) | (simp_all; omega) | grind
    · try dsimp only at hg9
      refine TL.runG rfl rfl (pure_move rfl) rfl ?_
      refine TL.runG rfl rfl (pure_call (Small_spec _) (.cons rfl .nil) Try.call13) rfl ?_
      refine TL.runG rfl rfl (pure_not rfl) rfl ?_
      refine TL.run1 (pure_pick_false rfl rfl) rfl ?_
      refine TL.cutEnd (by repeat (first | exact Same.refl _ _ | refine Same.put rfl ?_)) rfl ?_
      first | (simp only [decide_eq_true_eq, Bool.false_eq_true, false_iff, true_iff, iff_true, iff_false, Bool.not_eq_true]; omega) | (simp_all; done) | (simp_all; omega) | grind
  first | refine TC.condD rfl (fun hc13 => ?_) (fun hc13 => ?_) | refine TC.condN rfl (fun hc13 => ?_) (fun hc13 => ?_) | refine TC.cond rfl (fun hc13 => ?_) (fun hc13 => ?_)
  · try dsimp only at hc13
    refine TC.seq ?_
    refine TC.region ?_
    refine TL.run1 (pure_call (known_spec) .nil Try.call12) rfl ?_
    refine TL.run1 (pure_assign rfl) rfl ?_
    refine TL.nil' ?_
    refine TC.ret ?_
    refine then_ret ?_
    exact ret_bool rfl rfl
  · try dsimp only at hc13
    have hsm : SmallT rs := (smallB_iff rs).1 (by simpa using hc13)
    have hr := hsm.ok
    have hl : rs.length ≤ 2000 := by have := hsm.1; omega
    have hql : (layRects rs).length ≤ 2000 * rs.length := (lay_ok (fun r hh => (hr.1 r hh).2.2) rs.length (Nat.le_refl _)).len
    refine TC.skip' ?_
    refine TC.seq ?_
    refine TC.region ?_
    refine TL.run1 (pure_move rfl) rfl ?_
    refine TL.run1 (pure_call (GRegular_spec _ hr) (.cons rfl .nil) Try.call23) rfl ?_
    refine TL.run1 (pure_assign rfl) rfl ?_
    refine TL.nil' ?_
    refine TC.seq ?_
    refine TC.regionCut [17, 18, 19, 20] 20 (False) ?_ ?_
    · skip
      refine TL.run1 (pure_move rfl) rfl ?_
      refine TL.run1 (pure_move rfl) rfl ?_
      refine TL.run1 (pure_call (RRegular_spec _ hr) (.cons rfl .nil) Try.call24) rfl ?_
      refine TL.run1 (pure_neq_bool Try.underlying4 rfl rfl) rfl ?_
      refine TL.cutEnd (by repeat (first | exact Same.refl _ _ | refine Same.put rfl ?_)) rfl ?_
      first | (simp only [decide_eq_true_eq, Bool.false_eq_true, false_iff, true_iff, iff_true, iff_false, Bool.not_eq_true]; omega) | (simp_all; done) | (simp_all; omega) | grind
    first | refine TC.condD rfl (fun hc20 => ?_) (fun hc20 => ?_) | refine TC.condN rfl (fun hc20 => ?_) (fun hc20 => ?_) | refine TC.cond rfl (fun hc20 => ?_) (fun hc20 => ?_)
    · try dsimp only at hc20
      all_goals exact absurd hc20 id
    · try dsimp only at hc20
      refine TC.skip' ?_
      refine TC.seq ?_
      refine TC.region ?_
      refine TL.run1 (pure_move rfl) rfl ?_
      refine TL.run1 (pure_call (Rects_spec rs hr.1 hl) (.cons rfl .nil) Try.call14) rfl ?_
      refine TL.run1 (pure_assign rfl) rfl ?_
      refine TL.nil' ?_
      refine TC.seq ?_
      refine TC.region ?_
      refine TL.run1 (pure_assign rfl) rfl ?_
      refine TL.nil' ?_
      refine TC.seq ?_
      refine TC.seq ?_
      refine TC.region ?_
      refine TL.run1 (pure_assign rfl) rfl ?_
      refine TL.nil' ?_
      refine TC.block ?_
      refine TC.loopX (X := Int) (fun k => [(0, .sl 6 (encRs rs)), (3, .v (.bool (regTo rs (widthN rs rs.length) rs.length))), (4, .sl 6 (encQs (layRects rs))), (5, .v (.int .i64 (sumTo (layRects rs) k.toNat))), (6, .v (.int .i64 k))]) (fun k => []) (fun k => (0 ≤ k) ∧ (k ≤ (layRects rs).length)) (fun k => ((layRects rs).length - k).toNat) (0) ⟨by skip; repeat (first | exact Agree.nil | refine Agree.cons rfl ?_), by skip; repeat (first | exact List.nil_sublist _ | exact List.Sublist.refl _ | apply List.Sublist.cons_cons | apply List.Sublist.cons)⟩ ?_ ?_
      · skip
        exact ⟨by omega, by omega⟩
      intro k
      rintro ⟨k0, k1⟩
      show TC _ _ _ (Env.of [(0, .sl 6 (encRs rs)), (3, .v (.bool (regTo rs (widthN rs rs.length) rs.length))), (4, .sl 6 (encQs (layRects rs))), (5, .v (.int .i64 (sumTo (layRects rs) k.toNat))), (6, .v (.int .i64 k))]) []
      have hqk := encQs_len (layRects rs)
      refine TC.seq ?_
      refine TC.seq ?_
      refine TC.region ?_
      refine TL.run1 (pure_move rfl) rfl ?_
      refine TL.run1 (pure_move rfl) rfl ?_
      first | refine TL.run1 (pure_len Ty.sl25 rfl) rfl ?_ | refine TL.run1 (pure_len_row Ty.sl25 rfl (by repeat (first | exact List.Mem.head _ | apply List.Mem.tail))) rfl ?_ | refine TL.run1 (pure_len_nil Ty.sl25 rfl) rfl ?_
      refine TL.run1 (pure_lss rfl rfl) rfl ?_
      refine TL.nil' ?_
      first | refine TC.condD rfl (fun hc26 => ?_) (fun hc26 => ?_) | refine TC.condN rfl (fun hc26 => ?_) (fun hc26 => ?_) | refine TC.cond rfl (fun hc26 => ?_) (fun hc26 => ?_)
      · try dsimp only at hc26
        refine TC.skip' ?_
        refine TC.seq ?_
        refine TC.block ?_
        have hcell := encQs_get (layRects rs) k k0 (by omega)
        obtain ⟨b1, b2, b3, b4, b5, b6, b7, b8⟩ := area_bound hl k k0 (by omega)
        have hsb := sumTo_bound hl k.toNat (by omega)
        unfold areaQ at b7 b8
        refine TC.draw Ty.follows (by kernel_rfl) ?_
        refine TD.run1 (pure_move rfl) rfl ?_
        refine TD.run1 (pure_move rfl) rfl ?_
        refine TD.run1 (pure_move rfl) rfl ?_
        refine TD.run1 (pure_indexAddr Ty.sl25 rfl rfl (by omega) (by assumption) (List.cons_ne_nil _ _)) rfl ?_
        first | refine TD.run1 (pure_fieldAddr Ty.f40_2 rfl (.succ (.succ (.zero _))) (List.cons_ne_nil _ _)) rfl ?_ | refine TD.run1 (pure_fieldAddr_own Ty.f40_2 rfl) rfl ?_
        first | refine TD.run1 (pure_fieldAddr Ty.f38_2 rfl (.succ (.succ (.zero _))) (List.cons_ne_nil _ _)) rfl ?_ | refine TD.run1 (pure_fieldAddr_own Ty.f38_2 rfl) rfl ?_
        first | refine TD.run1 (pure_load1 Ty.one3 rfl) rfl ?_ | refine TD.run1 (pure_load1_own Ty.one3 rfl (by repeat (first | exact List.Mem.head _ | apply List.Mem.tail)) (by repeat (first | exact DropR.zero _ | apply DropR.succ))) rfl ?_
        refine TD.run1 (pure_move rfl) rfl ?_
        refine TD.run1 (pure_move rfl) rfl ?_
        refine TD.run1 (pure_indexAddr Ty.sl25 rfl rfl (by omega) (by assumption) (List.cons_ne_nil _ _)) rfl ?_
        first | refine TD.run1 (pure_fieldAddr Ty.f40_2 rfl (.succ (.succ (.zero _))) (List.cons_ne_nil _ _)) rfl ?_ | refine TD.run1 (pure_fieldAddr_own Ty.f40_2 rfl) rfl ?_
        first | refine TD.run1 (pure_fieldAddr Ty.f38_0 rfl (.zero _) (List.cons_ne_nil _ _)) rfl ?_ | refine TD.run1 (pure_fieldAddr_own Ty.f38_0 rfl) rfl ?_
        first | refine TD.run1 (pure_load1 Ty.one3 rfl) rfl ?_ | refine TD.run1 (pure_load1_own Ty.one3 rfl (by repeat (first | exact List.Mem.head _ | apply List.Mem.tail)) (by repeat (first | exact DropR.zero _ | apply DropR.succ))) rfl ?_
        refine TD.run1 (pure_sub rfl rfl (mkI64 (by omega) (by omega))) rfl ?_
        refine TD.run1 (pure_move rfl) rfl ?_
        refine TD.run1 (pure_move rfl) rfl ?_
        refine TD.run1 (pure_indexAddr Ty.sl25 rfl rfl (by omega) (by assumption) (List.cons_ne_nil _ _)) rfl ?_
        first | refine TD.run1 (pure_fieldAddr Ty.f40_2 rfl (.succ (.succ (.zero _))) (List.cons_ne_nil _ _)) rfl ?_ | refine TD.run1 (pure_fieldAddr_own Ty.f40_2 rfl) rfl ?_
        first | refine TD.run1 (pure_fieldAddr Ty.f38_3 rfl (.succ (.succ (.succ (.zero _)))) (List.cons_ne_nil _ _)) rfl ?_ | refine TD.run1 (pure_fieldAddr_own Ty.f38_3 rfl) rfl ?_
        first | refine TD.run1 (pure_load1 Ty.one3 rfl) rfl ?_ | refine TD.run1 (pure_load1_own Ty.one3 rfl (by repeat (first | exact List.Mem.head _ | apply List.Mem.tail)) (by repeat (first | exact DropR.zero _ | apply DropR.succ))) rfl ?_
        refine TD.run1 (pure_move rfl) rfl ?_
        refine TD.run1 (pure_move rfl) rfl ?_
        refine TD.run1 (pure_indexAddr Ty.sl25 rfl rfl (by omega) (by assumption) (List.cons_ne_nil _ _)) rfl ?_
        first | refine TD.run1 (pure_fieldAddr Ty.f40_2 rfl (.succ (.succ (.zero _))) (List.cons_ne_nil _ _)) rfl ?_ | refine TD.run1 (pure_fieldAddr_own Ty.f40_2 rfl) rfl ?_
        first | refine TD.run1 (pure_fieldAddr Ty.f38_1 rfl (.succ (.zero _)) (List.cons_ne_nil _ _)) rfl ?_ | refine TD.run1 (pure_fieldAddr_own Ty.f38_1 rfl) rfl ?_
        first | refine TD.run1 (pure_load1 Ty.one3 rfl) rfl ?_ | refine TD.run1 (pure_load1_own Ty.one3 rfl (by repeat (first | exact List.Mem.head _ | apply List.Mem.tail)) (by repeat (first | exact DropR.zero _ | apply DropR.succ))) rfl ?_
        refine TD.run1 (pure_sub rfl rfl (mkI64 (by omega) (by omega))) rfl ?_
        refine TD.run1 (pure_mul rfl rfl (mkI64 (by omega) (by omega))) rfl ?_
        refine TD.run1 (pure_add rfl rfl (mkI64 (by omega) (by omega))) rfl ?_
        refine TD.run1 (pure_assign rfl) rfl ?_
        refine TD.nil ?_
        refine block_normal ?_
        refine then_normal ?_
        refine TC.region ?_
        refine TL.run1 (pure_move rfl) rfl ?_
        refine TL.run1 (pure_add rfl rfl (mkI64 (by omega) (by omega))) rfl ?_
        refine TL.run1 (pure_assign rfl) rfl ?_
        refine TL.nil ?_
        have hss := sumTo_step (layRects rs) k k0
        refine loop_next (k + 1) ⟨by rw [hss]; unfold areaQ; repeat (first | exact Agree.nil | refine Agree.cons rfl ?_), by repeat (first | exact List.nil_sublist _ | exact List.Sublist.refl _ | apply List.Sublist.cons_cons | apply List.Sublist.cons)⟩ ⟨by omega, by omega⟩ (by omega)
      · try dsimp only at hc26
        refine TC.exit ?_
        refine then_exit ?_
        refine loop_exit ?_
        refine block_here ?_
        refine then_normal ?_
        have hkl : k = (layRects rs).length := by omega
        have har := area_reg (rs := rs) (w := (widthN rs rs.length))
        rw [show (layRects rs).length = k.toNat by omega] at har
        have hwn := widthN_nonneg rs rs.length
        have hwl := widthN_le rs rs.length
        have hmb : 0 ≤ ((encRs rs).length : Int) * (widthN rs rs.length) ∧ ((encRs rs).length : Int) * (widthN rs rs.length) ≤ 64000 := ⟨Int.mul_nonneg (by omega) hwn, by (have := Int.mul_le_mul (show ((encRs rs).length : Int) ≤ 2000 by omega) hwl hwn (by omega); omega)⟩
        rw [← hk] at har
        refine TC.regionCut [58, 59, 60, 61, 62, 63, 64, 65, 66, 67, 68, 2] 2 (True) ?_ ?_
        · skip
          refine TL.run1 (pure_move rfl) rfl ?_
          refine TL.run1 (pure_not rfl) rfl ?_
          refine TL.run1 (pure_move rfl) rfl ?_
          first | refine TL.splitP 60 rfl (fun hg60 => ?_) (fun hg60 => ?_) | refine TL.split 60 rfl (fun hg60 => ?_) (fun hg60 => ?_)
          · try dsimp only at hg60
            refine TL.passG rfl rfl rfl rfl ?_
            refine TL.passG rfl rfl rfl rfl ?_
            refine TL.passG rfl rfl rfl rfl ?_
            refine TL.passG rfl rfl rfl rfl ?_
            refine TL.passG rfl rfl rfl rfl ?_
            refine TL.passG rfl rfl rfl rfl ?_
            refine TL.passG rfl rfl rfl rfl ?_
            refine TL.run1 (pure_pick_true rfl rfl) rfl ?_
            refine TL.run1 (pure_assign rfl) rfl ?_
            refine TL.cutEnd (by repeat (first | exact Same.refl _ _ | refine Same.put rfl ?_)) rfl ?_
            first | (simp_all; done) | grind
          · try dsimp only at hg60
            refine TL.runG rfl rfl (pure_move rfl) rfl ?_
            refine TL.runG rfl rfl (pure_move rfl) rfl ?_
            first | refine TL.runG rfl rfl (pure_len Ty.sl22 rfl) rfl ?_ | refine TL.runG rfl rfl (pure_len_row Ty.sl22 rfl (by repeat (first | exact List.Mem.head _ | apply List.Mem.tail))) rfl ?_ | refine TL.runG rfl rfl (pure_len_nil Ty.sl22 rfl) rfl ?_
            refine TL.runG rfl rfl (pure_move rfl) rfl ?_
            refine TL.runG rfl rfl (pure_call (Columns_spec _ hr) (.cons rfl .nil) Try.call17) rfl ?_
            refine TL.runG rfl rfl (pure_mul rfl rfl (mkI64 (by omega) (by omega))) rfl ?_
            refine TL.runG rfl rfl (pure_eql rfl rfl) rfl ?_
            refine TL.run1 (pure_pick_false rfl rfl) rfl ?_
            refine TL.run1 (pure_assign rfl) rfl ?_
            refine TL.cutEnd (by repeat (first | exact Same.refl _ _ | refine Same.put rfl ?_)) rfl ?_
            first | (simp_all; done) | grind
        refine TC.ret ?_
        exact ret_bool rfl (by simp)
set_option maxRecDepth 100000 in
theorem GridDisjoint_spec (rs : List RowD) : Fun Try.prog 8 [.sl 6 (encRs rs)] (.v (.bool true)) := by
  refine Fun.enter (n := 87) (rs := [.tmp 2]) Try.func8 rfl Try.ntmps8 Try.results8 rfl (fun w F => ?_)
  have hk := encRs_len rs
  refine TC.seq ?_
  refine TC.region ?_
  refine TL.run1 (pure_assign rfl) rfl ?_
  refine TL.nil' ?_
  refine TC.seq ?_
  refine TC.regionCut [11, 12, 13, 14, 15, 16, 17] 17 (smallB rs = false) ?_ ?_
  · skip
    refine TL.run1 (pure_call (known_spec) .nil Try.call12) rfl ?_
    refine TL.run1 (pure_not rfl) rfl ?_
    refine TL.run1 (pure_move rfl) rfl ?_
    first | refine TL.splitP 13 rfl (fun hg13 => ?_) (fun hg13 => ?_) | refine TL.split 13 rfl (fun hg13 => ?_) (fun hg13 => ?_)
    · try dsimp only at hg13
      refine TL.passG rfl rfl rfl rfl ?_
      refine TL.passG rfl rfl rfl rfl ?_
      refine TL.passG rfl rfl rfl rfl ?_
      refine TL.run1 (pure_pick_true rfl rfl) rfl ?_
      refine TL.cutEnd (by repeat (first | exact Same.refl _ _ | refine Same.put rfl ?_)) rfl ?_
      first | (simp only [decide_eq_true_eq, Bool.false_eq_true, false_iff, true_iff, iff_true, iff_false, Bool.not_eq_true]; omega) | (simp_all; done) | (simp_all; omega) | grind
    · try dsimp only at hg13
      refine TL.runG rfl rfl (pure_move rfl) rfl ?_
      refine TL.runG rfl rfl (pure_call (Small_spec _) (.cons rfl .nil) Try.call13) rfl ?_
      refine TL.runG rfl rfl (pure_not rfl) rfl ?_
      refine TL.run1 (pure_pick_false rfl rfl) rfl ?_
      refine TL.cutEnd (by repeat (first | exact Same.refl _ _ | refine Same.put rfl ?_)) rfl ?_
      first | (simp only [decide_eq_true_eq, Bool.false_eq_true, false_iff, true_iff, iff_true, iff_false, Bool.not_eq_true]; omega) | (simp_all; done) | (simp_all; omega) | grind
  first | refine TC.condD rfl (fun hc17 => ?_) (fun hc17 => ?_) | refine TC.condN rfl (fun hc17 => ?_) (fun hc17 => ?_) | refine TC.cond rfl (fun hc17 => ?_) (fun hc17 => ?_)
  · try dsimp only at hc17
    refine TC.seq ?_
    refine TC.region ?_
    refine TL.run1 (pure_call (known_spec) .nil Try.call12) rfl ?_
    refine TL.run1 (pure_assign rfl) rfl ?_
    refine TL.nil' ?_
    refine TC.ret ?_
    refine then_ret ?_
    exact ret_bool rfl rfl
  · try dsimp only at hc17
    have hsm : SmallT rs := (smallB_iff rs).1 (by simpa using hc17)
    have hr := hsm.ok
    have hl : rs.length ≤ 2000 := by have := hsm.1; omega
    have hql : (layRects rs).length ≤ 2000 * rs.length := (lay_ok (fun r hh => (hr.1 r hh).2.2) rs.length (Nat.le_refl _)).len
    refine TC.skip' ?_
    refine TC.seq ?_
    refine TC.region ?_
    refine TL.run1 (pure_move rfl) rfl ?_
    refine TL.run1 (pure_call (Rects_spec rs hr.1 hl) (.cons rfl .nil) Try.call14) rfl ?_
    refine TL.run1 (pure_assign rfl) rfl ?_
    refine TL.nil' ?_
    refine TC.seq ?_
    refine TC.seq ?_
    refine TC.region ?_
    refine TL.run1 (pure_assign rfl) rfl ?_
    refine TL.nil' ?_
    refine TC.block ?_
    refine TC.loopX (X := Int) (fun i => [(0, .sl 6 (encRs rs)), (3, .sl 6 (encQs (layRects rs))), (4, .v (.int .i64 i))]) (fun i => []) (fun i => (0 ≤ i) ∧ (i ≤ rs.length)) (fun i => (rs.length - i).toNat) (0) ⟨by skip; repeat (first | exact Agree.nil | refine Agree.cons rfl ?_), by skip; repeat (first | exact List.nil_sublist _ | exact List.Sublist.refl _ | apply List.Sublist.cons_cons | apply List.Sublist.cons)⟩ ?_ ?_
    · skip
      exact ⟨by omega, by omega⟩
    intro i
    rintro ⟨h0, h1⟩
    show TC _ _ _ (Env.of [(0, .sl 6 (encRs rs)), (3, .sl 6 (encQs (layRects rs))), (4, .v (.int .i64 i))]) []
    refine TC.seq ?_
    refine TC.seq ?_
    refine TC.region ?_
    refine TL.run1 (pure_move rfl) rfl ?_
    refine TL.run1 (pure_move rfl) rfl ?_
    first | refine TL.run1 (pure_len Ty.sl22 rfl) rfl ?_ | refine TL.run1 (pure_len_row Ty.sl22 rfl (by repeat (first | exact List.Mem.head _ | apply List.Mem.tail))) rfl ?_ | refine TL.run1 (pure_len_nil Ty.sl22 rfl) rfl ?_
    refine TL.run1 (pure_lss rfl rfl) rfl ?_
    refine TL.nil' ?_
    first | refine TC.condD rfl (fun hc24 => ?_) (fun hc24 => ?_) | refine TC.condN rfl (fun hc24 => ?_) (fun hc24 => ?_) | refine TC.cond rfl (fun hc24 => ?_) (fun hc24 => ?_)
    · try dsimp only at hc24
      refine TC.skip' ?_
      refine TC.seq ?_
      refine TC.block ?_
      refine TC.seq ?_
      refine TC.region ?_
      refine TL.run1 (pure_assign rfl) rfl ?_
      refine TL.nil' ?_
      refine TC.block ?_
      refine TC.loopX (X := Int) (fun c => [(0, .sl 6 (encRs rs)), (3, .sl 6 (encQs (layRects rs))), (4, .v (.int .i64 i)), (5, .v (.int .i64 c))]) (fun c => []) (fun c => (0 ≤ c) ∧ (c ≤ 32)) (fun c => (32 - c).toNat) (0) ⟨by skip; repeat (first | exact Agree.nil | refine Agree.cons rfl ?_), by skip; repeat (first | exact List.nil_sublist _ | exact List.Sublist.refl _ | apply List.Sublist.cons_cons | apply List.Sublist.cons)⟩ ?_ ?_
      · skip
        exact ⟨by omega, by omega⟩
      intro c
      rintro ⟨c0, c1⟩
      show TC _ _ _ (Env.of [(0, .sl 6 (encRs rs)), (3, .sl 6 (encQs (layRects rs))), (4, .v (.int .i64 i)), (5, .v (.int .i64 c))]) []
      refine TC.seq ?_
      refine TC.seq ?_
      refine TC.region ?_
      refine TL.run1 (pure_move rfl) rfl ?_
      refine TL.run1 (pure_lss rfl rfl) rfl ?_
      refine TL.nil' ?_
      first | refine TC.condD rfl (fun hc28 => ?_) (fun hc28 => ?_) | refine TC.condN rfl (fun hc28 => ?_) (fun hc28 => ?_) | refine TC.cond rfl (fun hc28 => ?_) (fun hc28 => ?_)
      · try dsimp only at hc28
        refine TC.skip' ?_
        refine TC.seq ?_
        refine TC.block ?_
        refine TC.seq ?_
        refine TC.region ?_
        refine TL.run1 (pure_assign rfl) rfl ?_
        refine TL.nil' ?_
        refine TC.seq ?_
        refine TC.seq ?_
        refine TC.region ?_
        refine TL.run1 (pure_assign rfl) rfl ?_
        refine TL.nil' ?_
        refine TC.block ?_
        refine TC.loopX (X := Int) (fun k => [(0, .sl 6 (encRs rs)), (3, .sl 6 (encQs (layRects rs))), (4, .v (.int .i64 i)), (5, .v (.int .i64 c)), (6, .v (.int .i64 (covTo (layRects rs) i c k.toNat))), (7, .v (.int .i64 k))]) (fun k => []) (fun k => (0 ≤ k) ∧ (k ≤ (layRects rs).length)) (fun k => ((layRects rs).length - k).toNat) (0) ⟨by skip; repeat (first | exact Agree.nil | refine Agree.cons rfl ?_), by skip; repeat (first | exact List.nil_sublist _ | exact List.Sublist.refl _ | apply List.Sublist.cons_cons | apply List.Sublist.cons)⟩ ?_ ?_
        · skip
          exact ⟨by omega, by omega⟩
        intro k
        rintro ⟨k0, k1⟩
        show TC _ _ _ (Env.of [(0, .sl 6 (encRs rs)), (3, .sl 6 (encQs (layRects rs))), (4, .v (.int .i64 i)), (5, .v (.int .i64 c)), (6, .v (.int .i64 (covTo (layRects rs) i c k.toNat))), (7, .v (.int .i64 k))]) []
        have hqk := encQs_len (layRects rs)
        have hcb := covTo_bound (layRects rs) i c k.toNat
        refine TC.seq ?_
        refine TC.seq ?_
        refine TC.region ?_
        refine TL.run1 (pure_move rfl) rfl ?_
        refine TL.run1 (pure_move rfl) rfl ?_
        first | refine TL.run1 (pure_len Ty.sl25 rfl) rfl ?_ | refine TL.run1 (pure_len_row Ty.sl25 rfl (by repeat (first | exact List.Mem.head _ | apply List.Mem.tail))) rfl ?_ | refine TL.run1 (pure_len_nil Ty.sl25 rfl) rfl ?_
        refine TL.run1 (pure_lss rfl rfl) rfl ?_
        refine TL.nil' ?_
        first | refine TC.condD rfl (fun hc34 => ?_) (fun hc34 => ?_) | refine TC.condN rfl (fun hc34 => ?_) (fun hc34 => ?_) | refine TC.cond rfl (fun hc34 => ?_) (fun hc34 => ?_)
        · try dsimp only at hc34
          refine TC.skip' ?_
          refine TC.seq ?_
          refine TC.block ?_
          refine TC.seq ?_
          have hcell := encQs_get (layRects rs) k k0 (by omega)
          refine TC.region ?_
          refine TL.run1 (pure_move rfl) rfl ?_
          refine TL.run1 (pure_move rfl) rfl ?_
          refine TL.run1 (pure_indexAddr Ty.sl25 rfl rfl (by omega) (by assumption) (List.cons_ne_nil _ _)) rfl ?_
          first | refine TL.run1 (pure_fieldAddr Ty.f40_2 rfl (.succ (.succ (.zero _))) (List.cons_ne_nil _ _)) rfl ?_ | refine TL.run1 (pure_fieldAddr_own Ty.f40_2 rfl) rfl ?_
          first | refine TL.run1 (pure_load Ty.agg38 rfl (.succ (.succ (.succ (.succ (.zero _)))))) rfl ?_ | refine TL.run1 (pure_load_own Ty.agg38 rfl (by repeat (first | exact List.Mem.head _ | apply List.Mem.tail)) (by repeat (first | exact DropR.zero _ | apply DropR.succ)) (.succ (.succ (.succ (.succ (.zero _)))))) rfl ?_
          refine TL.alloc Ty.zero38 rfl (fun g8 => ?_)
          refine TL.store rfl rfl (.agg _) Try.sizeOf38 rfl (by repeat (first | exact UpdR.here _ | apply UpdR.there)) (by repeat (first | exact PutR.nil _ | apply PutR.here | apply PutR.skip)) ?_
          refine TL.nil' ?_
          refine TC.regionCut [42, 43, 44, 45, 46, 47, 48, 49, 50, 51, 52, 53, 54, 55, 56, 57, 58, 59, 60, 61, 62, 63] 63 (covB (qAt (layRects rs) k) i c = true) ?_ ?_
          · skip
            first | refine TL.run1 (pure_fieldAddr Ty.f38_0 rfl (.zero _) (List.cons_ne_nil _ _)) rfl ?_ | refine TL.run1 (pure_fieldAddr_own Ty.f38_0 rfl) rfl ?_
            first | refine TL.run1 (pure_load1 Ty.one3 rfl) rfl ?_ | refine TL.run1 (pure_load1_own Ty.one3 rfl (by repeat (first | exact List.Mem.head _ | apply List.Mem.tail)) (by repeat (first | exact DropR.zero _ | apply DropR.succ))) rfl ?_
            refine TL.run1 (pure_move rfl) rfl ?_
            refine TL.run1 (pure_leq rfl rfl) rfl ?_
            refine TL.run1 (pure_move rfl) rfl ?_
            first | refine TL.splitP 46 rfl (fun hg46 => ?_) (fun hg46 => ?_) | refine TL.split 46 rfl (fun hg46 => ?_) (fun hg46 => ?_)
            · try dsimp only at hg46
              refine TL.runG rfl rfl (pure_move rfl) rfl ?_
              first | refine TL.runG rfl rfl (pure_fieldAddr Ty.f38_2 rfl (.succ (.succ (.zero _))) (List.cons_ne_nil _ _)) rfl ?_ | refine TL.runG rfl rfl (pure_fieldAddr_own Ty.f38_2 rfl) rfl ?_
              first | refine TL.runG rfl rfl (pure_load1 Ty.one3 rfl) rfl ?_ | refine TL.runG rfl rfl (pure_load1_own Ty.one3 rfl (by repeat (first | exact List.Mem.head _ | apply List.Mem.tail)) (by repeat (first | exact DropR.zero _ | apply DropR.succ))) rfl ?_
              refine TL.runG rfl rfl (pure_lss rfl rfl) rfl ?_
              refine TL.run1 (pure_pick_true rfl rfl) rfl ?_
              refine TL.run1 (pure_move rfl) rfl ?_
              first | refine TL.splitP 52 rfl (fun hg52 => ?_) (fun hg52 => ?_) | refine TL.split 52 rfl (fun hg52 => ?_) (fun hg52 => ?_)
              · try dsimp only at hg52
                first | refine TL.runG rfl rfl (pure_fieldAddr Ty.f38_1 rfl (.succ (.zero _)) (List.cons_ne_nil _ _)) rfl ?_ | refine TL.runG rfl rfl (pure_fieldAddr_own Ty.f38_1 rfl) rfl ?_
                first | refine TL.runG rfl rfl (pure_load1 Ty.one3 rfl) rfl ?_ | refine TL.runG rfl rfl (pure_load1_own Ty.one3 rfl (by repeat (first | exact List.Mem.head _ | apply List.Mem.tail)) (by repeat (first | exact DropR.zero _ | apply DropR.succ))) rfl ?_
                refine TL.runG rfl rfl (pure_move rfl) rfl ?_
                refine TL.runG rfl rfl (pure_leq rfl rfl) rfl ?_
                refine TL.run1 (pure_pick_true rfl rfl) rfl ?_
                refine TL.run1 (pure_move rfl) rfl ?_
                first | refine TL.splitP 58 rfl (fun hg58 => ?_) (fun hg58 => ?_) | refine TL.split 58 rfl (fun hg58 => ?_) (fun hg58 => ?_)
                · try dsimp only at hg58
                  refine TL.runG rfl rfl (pure_move rfl) rfl ?_
                  first | refine TL.runG rfl rfl (pure_fieldAddr Ty.f38_3 rfl (.succ (.succ (.succ (.zero _)))) (List.cons_ne_nil _ _)) rfl ?_ | refine TL.runG rfl rfl (pure_fieldAddr_own Ty.f38_3 rfl) rfl ?_
                  first | refine TL.runG rfl rfl (pure_load1 Ty.one3 rfl) rfl ?_ | refine TL.runG rfl rfl (pure_load1_own Ty.one3 rfl (by repeat (first | exact List.Mem.head _ | apply List.Mem.tail)) (by repeat (first | exact DropR.zero _ | apply DropR.succ))) rfl ?_
                  refine TL.runG rfl rfl (pure_lss rfl rfl) rfl ?_
                  refine TL.run1 (pure_pick_true rfl rfl) rfl ?_
                  refine TL.cutEnd (by repeat (first | exact Same.refl _ _ | refine Same.put rfl ?_)) rfl ?_
                  first | (simp only [covB, decide_eq_true_eq, Bool.false_eq_true, false_iff, true_iff, iff_true, iff_false]; omega) | grind [covB]
                · try dsimp only at hg58
                  refine TL.passG rfl rfl rfl rfl ?_
                  refine TL.passG rfl rfl rfl rfl ?_
                  refine TL.passG rfl rfl rfl rfl ?_
                  refine TL.passG rfl rfl rfl rfl ?_
                  refine TL.run1 (pure_pick_false rfl rfl) rfl ?_
                  refine TL.cutEnd (by repeat (first | exact Same.refl _ _ | refine Same.put rfl ?_)) rfl ?_
                  first | (simp only [covB, decide_eq_true_eq, Bool.false_eq_true, false_iff, true_iff, iff_true, iff_false]; omega) | grind [covB]
              · try dsimp only at hg52
                refine TL.passG rfl rfl rfl rfl ?_
                refine TL.passG rfl rfl rfl rfl ?_
                refine TL.passG rfl rfl rfl rfl ?_
                refine TL.passG rfl rfl rfl rfl ?_
                refine TL.run1 (pure_pick_false rfl rfl) rfl ?_
                refine TL.run1 (pure_move rfl) rfl ?_
                refine TL.passG rfl rfl rfl rfl ?_
                refine TL.passG rfl rfl rfl rfl ?_
                refine TL.passG rfl rfl rfl rfl ?_
                refine TL.passG rfl rfl rfl rfl ?_
                refine TL.run1 (pure_pick_false rfl rfl) rfl ?_
                refine TL.cutEnd (by repeat (first | exact Same.refl _ _ | refine Same.put rfl ?_)) rfl ?_
                first | (simp only [covB, decide_eq_true_eq, Bool.false_eq_true, false_iff, true_iff, iff_true, iff_false]; omega) | grind [covB]
            · try dsimp only at hg46
              refine TL.passG rfl rfl rfl rfl ?_
              refine TL.passG rfl rfl rfl rfl ?_
              refine TL.passG rfl rfl rfl rfl ?_
              refine TL.passG rfl rfl rfl rfl ?_
              refine TL.run1 (pure_pick_false rfl rfl) rfl ?_
              refine TL.run1 (pure_move rfl) rfl ?_
              refine TL.passG rfl rfl rfl rfl ?_
              refine TL.passG rfl rfl rfl rfl ?_
              refine TL.passG rfl rfl rfl rfl ?_
              refine TL.passG rfl rfl rfl rfl ?_
              refine TL.run1 (pure_pick_false rfl rfl) rfl ?_
              refine TL.run1 (pure_move rfl) rfl ?_
              refine TL.passG rfl rfl rfl rfl ?_
              refine TL.passG rfl rfl rfl rfl ?_
              refine TL.passG rfl rfl rfl rfl ?_
              refine TL.passG rfl rfl rfl rfl ?_
              refine TL.run1 (pure_pick_false rfl rfl) rfl ?_
              refine TL.cutEnd (by repeat (first | exact Same.refl _ _ | refine Same.put rfl ?_)) rfl ?_
              first | (simp only [covB, decide_eq_true_eq, Bool.false_eq_true, false_iff, true_iff, iff_true, iff_false]; omega) | grind [covB]
          first | refine TC.condD rfl (fun hc63 => ?_) (fun hc63 => ?_) | refine TC.condN rfl (fun hc63 => ?_) (fun hc63 => ?_) | refine TC.cond rfl (fun hc63 => ?_) (fun hc63 => ?_)
          · try dsimp only at hc63
            refine TC.region ?_
            refine TL.run1 (pure_move rfl) rfl ?_
            refine TL.run1 (pure_add rfl rfl (mkI64 (by omega) (by omega))) rfl ?_
            refine TL.run1 (pure_assign rfl) rfl ?_
            refine TL.nil ?_
            refine block_normal ?_
            refine then_normal ?_
            refine TC.region ?_
            refine TL.run1 (pure_move rfl) rfl ?_
            refine TL.run1 (pure_add rfl rfl (mkI64 (by omega) (by omega))) rfl ?_
            refine TL.run1 (pure_assign rfl) rfl ?_
            refine TL.nil ?_
            have hss := covTo_step (layRects rs) i c k k0
            rw [if_pos hc63] at hss
            refine loop_next (k + 1) ⟨by rw [hss]; repeat (first | exact Agree.nil | refine Agree.cons rfl ?_), by repeat (first | exact List.nil_sublist _ | exact List.Sublist.refl _ | apply List.Sublist.cons_cons | apply List.Sublist.cons)⟩ ⟨by omega, by omega⟩ (by omega)
          · try dsimp only at hc63
            refine TC.skip ?_
            refine block_normal ?_
            refine then_normal ?_
            refine TC.region ?_
            refine TL.run1 (pure_move rfl) rfl ?_
            refine TL.run1 (pure_add rfl rfl (mkI64 (by omega) (by omega))) rfl ?_
            refine TL.run1 (pure_assign rfl) rfl ?_
            refine TL.nil ?_
            have hss := covTo_step (layRects rs) i c k k0
            rw [if_neg hc63] at hss
            refine loop_next (k + 1) ⟨by rw [hss]; repeat (first | exact Agree.nil | refine Agree.cons rfl ?_), by repeat (first | exact List.nil_sublist _ | exact List.Sublist.refl _ | apply List.Sublist.cons_cons | apply List.Sublist.cons)⟩ ⟨by omega, by omega⟩ (by omega)
        · try dsimp only at hc34
          refine TC.exit ?_
          refine then_exit ?_
          refine loop_exit ?_
          refine block_here ?_
          refine then_normal ?_
          refine TC.seq ?_
          have hcc := cov_count rs i c h0 (by omega)
          rw [show (layRects rs).length = k.toNat by omega] at hcc
          have hct : (covTo (layRects rs) i c k.toNat = 1 ∧ atE rs i c = 0) ∨ (covTo (layRects rs) i c k.toNat = 0 ∧ atE rs i c = 8) := by
            unfold atE
            rw [if_pos ⟨h0, by omega, c0, by omega⟩, hcc]
            split <;> simp
          clear hcc
          refine TC.region ?_
          refine TL.run1 (pure_move rfl) rfl ?_
          refine TL.run1 (pure_move rfl) rfl ?_
          refine TL.run1 (pure_move rfl) rfl ?_
          refine TL.run1 (pure_call (At_spec _ hr _ _) (.cons rfl (.cons rfl (.cons rfl .nil))) Try.call27) rfl ?_
          refine TL.run1 (pure_move rfl) rfl ?_
          refine TL.run1 (pure_extract rfl rfl) rfl ?_
          refine TL.run1 (pure_extract rfl rfl) rfl ?_
          refine TL.run1 (pure_assign rfl) rfl ?_
          refine TL.run1 (pure_assign rfl) rfl ?_
          refine TL.nil' ?_
          refine TC.regionCut [73, 74, 75, 76, 77, 78, 79, 80, 81, 82, 83, 84, 85, 86] 86 (False) ?_ ?_
          · skip
            refine TL.run1 (pure_move rfl) rfl ?_
            refine TL.run1 (pure_eql rfl rfl) rfl ?_
            refine TL.run1 (pure_move rfl) rfl ?_
            first | refine TL.splitP 75 rfl (fun hg75 => ?_) (fun hg75 => ?_) | refine TL.split 75 rfl (fun hg75 => ?_) (fun hg75 => ?_)
            · try dsimp only at hg75
              refine TL.runG rfl rfl (pure_move rfl) rfl ?_
              refine TL.runG rfl rfl (pure_neq rfl rfl) rfl ?_
              refine TL.run1 (pure_pick_true rfl rfl) rfl ?_
              refine TL.run1 (pure_move rfl) rfl ?_
              first | refine TL.splitP 79 rfl (fun hg79 => ?_) (fun hg79 => ?_) | refine TL.split 79 rfl (fun hg79 => ?_) (fun hg79 => ?_)
              · try dsimp only at hg79
                refine TL.passG rfl rfl rfl rfl ?_
                refine TL.passG rfl rfl rfl rfl ?_
                refine TL.passG rfl rfl rfl rfl ?_
                refine TL.passG rfl rfl rfl rfl ?_
                refine TL.passG rfl rfl rfl rfl ?_
                refine TL.passG rfl rfl rfl rfl ?_
                refine TL.run1 (pure_pick_true rfl rfl) rfl ?_
                refine TL.cutEnd (by repeat (first | exact Same.refl _ _ | refine Same.put rfl ?_)) rfl ?_
                rcases hct with ⟨ha, hb⟩ | ⟨ha, hb⟩ <;> simp_all
              · try dsimp only at hg79
                refine TL.runG rfl rfl (pure_move rfl) rfl ?_
                refine TL.runG rfl rfl (pure_neq rfl rfl) rfl ?_
                refine TL.runG rfl rfl (pure_move rfl) rfl ?_
                first | refine TL.splitP 82 rfl (fun hg82 => ?_) (fun hg82 => ?_) | refine TL.split 82 rfl (fun hg82 => ?_) (fun hg82 => ?_)
                · try dsimp only at hg82
                  refine TL.runG rfl rfl (pure_move rfl) rfl ?_
                  refine TL.runG rfl rfl (pure_neq rfl rfl) rfl ?_
                  refine TL.runG rfl rfl (pure_pick_true rfl rfl) rfl ?_
                  refine TL.run1 (pure_pick_false rfl rfl) rfl ?_
                  refine TL.cutEnd (by repeat (first | exact Same.refl _ _ | refine Same.put rfl ?_)) rfl ?_
                  rcases hct with ⟨ha, hb⟩ | ⟨ha, hb⟩ <;> simp_all
                · try dsimp only at hg82
                  refine TL.passG rfl rfl rfl rfl ?_
                  refine TL.passG rfl rfl rfl rfl ?_
                  refine TL.runG rfl rfl (pure_pick_false rfl rfl) rfl ?_
                  refine TL.run1 (pure_pick_false rfl rfl) rfl ?_
                  refine TL.cutEnd (by repeat (first | exact Same.refl _ _ | refine Same.put rfl ?_)) rfl ?_
                  rcases hct with ⟨ha, hb⟩ | ⟨ha, hb⟩ <;> simp_all
            · try dsimp only at hg75
              refine TL.passG rfl rfl rfl rfl ?_
              refine TL.passG rfl rfl rfl rfl ?_
              refine TL.run1 (pure_pick_false rfl rfl) rfl ?_
              refine TL.run1 (pure_move rfl) rfl ?_
              refine TL.runG rfl rfl (pure_move rfl) rfl ?_
              refine TL.runG rfl rfl (pure_neq rfl rfl) rfl ?_
              refine TL.runG rfl rfl (pure_move rfl) rfl ?_
              first | refine TL.splitP 82 rfl (fun hg82 => ?_) (fun hg82 => ?_) | refine TL.split 82 rfl (fun hg82 => ?_) (fun hg82 => ?_)
              · try dsimp only at hg82
                refine TL.runG rfl rfl (pure_move rfl) rfl ?_
                refine TL.runG rfl rfl (pure_neq rfl rfl) rfl ?_
                refine TL.runG rfl rfl (pure_pick_true rfl rfl) rfl ?_
                refine TL.run1 (pure_pick_false rfl rfl) rfl ?_
                refine TL.cutEnd (by repeat (first | exact Same.refl _ _ | refine Same.put rfl ?_)) rfl ?_
                rcases hct with ⟨ha, hb⟩ | ⟨ha, hb⟩ <;> simp_all
              · try dsimp only at hg82
                refine TL.passG rfl rfl rfl rfl ?_
                refine TL.passG rfl rfl rfl rfl ?_
                refine TL.runG rfl rfl (pure_pick_false rfl rfl) rfl ?_
                refine TL.run1 (pure_pick_false rfl rfl) rfl ?_
                refine TL.cutEnd (by repeat (first | exact Same.refl _ _ | refine Same.put rfl ?_)) rfl ?_
                rcases hct with ⟨ha, hb⟩ | ⟨ha, hb⟩ <;> simp_all
          first | refine TC.condD rfl (fun hc86 => ?_) (fun hc86 => ?_) | refine TC.condN rfl (fun hc86 => ?_) (fun hc86 => ?_) | refine TC.cond rfl (fun hc86 => ?_) (fun hc86 => ?_)
          · try dsimp only at hc86
            all_goals exact absurd hc86 id
          · try dsimp only at hc86
            refine TC.skip ?_
            refine block_normal ?_
            refine then_normal ?_
            refine TC.region ?_
            refine TL.run1 (pure_move rfl) rfl ?_
            refine TL.run1 (pure_add rfl rfl (mkI64 (by omega) (by omega))) rfl ?_
            refine TL.run1 (pure_assign rfl) rfl ?_
            refine TL.nil ?_
            refine loop_next (c + 1) ⟨by repeat (first | exact Agree.nil | refine Agree.cons rfl ?_), by repeat (first | exact List.nil_sublist _ | exact List.Sublist.refl _ | apply List.Sublist.cons_cons | apply List.Sublist.cons)⟩ ⟨by omega, by omega⟩ (by omega)
      · try dsimp only at hc28
        refine TC.exit ?_
        refine then_exit ?_
        refine loop_exit ?_
        refine block_here ?_
        refine block_normal ?_
        refine then_normal ?_
        refine TC.region ?_
        refine TL.run1 (pure_move rfl) rfl ?_
        refine TL.run1 (pure_add rfl rfl (mkI64 (by omega) (by omega))) rfl ?_
        refine TL.run1 (pure_assign rfl) rfl ?_
        refine TL.nil ?_
        refine loop_next (i + 1) ⟨by repeat (first | exact Agree.nil | refine Agree.cons rfl ?_), by repeat (first | exact List.nil_sublist _ | exact List.Sublist.refl _ | apply List.Sublist.cons_cons | apply List.Sublist.cons)⟩ ⟨by omega, by omega⟩ (by omega)
    · try dsimp only at hc24
      refine TC.exit ?_
      refine then_exit ?_
      refine loop_exit ?_
      refine block_here ?_
      refine then_normal ?_
      refine TC.seq ?_
      refine TC.region ?_
      refine TL.run1 (pure_assign rfl) rfl ?_
      refine TL.nil' ?_
      refine TC.ret ?_
      exact ret_bool rfl rfl
end Go.Ob
