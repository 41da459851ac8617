import Derived.Test.YtlhjcleejolbiaaZm
set_option linter.unusedVariables false
set_option linter.unusedSimpArgs false
set_option linter.unnecessarySimpa false
set_option linter.unusedVariables false
set_option linter.unusedSimpArgs false
namespace Go.Ob
open Go.Proofs
set_option maxRecDepth 100000 in
theorem full_spec (rs : List RowD) (hr : TabOk rs) (a : A4) (hin : InsideA rs a) : Fun Try.prog 33 [.sl 6 (encRs rs), .agg (encA a)] (.v (.bool (fullB rs a))) := by
  refine Fun.enter (n := 30) (rs := [.tmp 4]) Try.func33 rfl Try.ntmps33 Try.results33 rfl (fun w F => ?_)
  have hk := encRs_len rs
  have hrl0 := hr.2
  have hin0 := id hin
  unfold InsideA at hin0
  have hia := hin.inA
  unfold InA at hia
  refine TC.seq ?_
  refine TC.region ?_
  refine TL.box rfl (.agg _) rfl (fun g3 => ?_)
  refine TL.run1 (pure_assign rfl) rfl ?_
  refine TL.nil' ?_
  refine TC.seq ?_
  refine TC.seq ?_
  refine TC.freezeBox 3 (List.cons_ne_nil _ _) (.here _) rfl ?_
  refine TC.region ?_
  first | refine TL.run1 (pure_fieldAddr Ty.f38_0 rfl (.zero _) (List.cons_ne_nil _ _)) rfl ?_ | refine TL.run1 (pure_fieldAddr_own Ty.f38_0 rfl) rfl ?_
  first | refine TL.run1 (pure_load1 Ty.one3 rfl) rfl ?_ | refine TL.run1 (pure_load1_own Ty.one3 rfl (by repeat (first | exact List.Mem.head _ | apply List.Mem.tail)) (by repeat (first | exact DropR.zero _ | apply DropR.succ))) rfl ?_
  refine TL.run1 (pure_assign rfl) rfl ?_
  refine TL.nil' ?_
  refine TC.block ?_
  refine TC.loopX (X := Int) (fun i => [(0, .sl 6 (encRs rs)), (3, .at_ [.v (.int .i64 a.t), .v (.int .i64 a.l), .v (.int .i64 a.b), .v (.int .i64 a.r)]), (5, .v (.int .i64 i))]) (fun i => []) (fun i => (a.t ≤ i) ∧ (i ≤ a.b) ∧ (∀ j : Int, a.t ≤ j → j < i → ∀ c : Int, a.l ≤ c → c < a.r → 0 ≤ atN (rAt rs j) c)) (fun i => (a.b - i).toNat) (a.t) ⟨by skip; repeat (first | exact Agree.nil | refine Agree.cons rfl ?_), by skip; repeat (first | exact List.nil_sublist _ | exact List.Sublist.refl _ | apply List.Sublist.cons_cons | apply List.Sublist.cons)⟩ ?_ ?_
  · skip
    exact ⟨Int.le_refl _, by omega, fun j _ _ => by omega⟩
  intro i
  rintro ⟨h0, h1, h2⟩
  show TC _ _ _ (Env.of [(0, .sl 6 (encRs rs)), (3, .at_ [.v (.int .i64 a.t), .v (.int .i64 a.l), .v (.int .i64 a.b), .v (.int .i64 a.r)]), (5, .v (.int .i64 i))]) []
  refine TC.seq ?_
  refine TC.seq ?_
  refine TC.region ?_
  refine TL.run1 (pure_move rfl) rfl ?_
  first | refine TL.run1 (pure_fieldAddr Ty.f38_2 rfl (.succ (.succ (.zero _))) (List.cons_ne_nil _ _)) rfl ?_ | refine TL.run1 (pure_fieldAddr_own Ty.f38_2 rfl) rfl ?_
  first | refine TL.run1 (pure_load1 Ty.one3 rfl) rfl ?_ | refine TL.run1 (pure_load1_own Ty.one3 rfl (by repeat (first | exact List.Mem.head _ | apply List.Mem.tail)) (by repeat (first | exact DropR.zero _ | apply DropR.succ))) rfl ?_
  refine TL.run1 (pure_lss rfl rfl) rfl ?_
  refine TL.nil' ?_
  first | refine TC.condD rfl (fun hc12 => ?_) (fun hc12 => ?_) | refine TC.condN rfl (fun hc12 => ?_) (fun hc12 => ?_) | refine TC.cond rfl (fun hc12 => ?_) (fun hc12 => ?_)
  · try dsimp only at hc12
    refine TC.skip' ?_
    refine TC.seq ?_
    refine TC.block ?_
    refine TC.seq ?_
    refine TC.region ?_
    first | refine TL.run1 (pure_fieldAddr Ty.f38_1 rfl (.succ (.zero _)) (List.cons_ne_nil _ _)) rfl ?_ | refine TL.run1 (pure_fieldAddr_own Ty.f38_1 rfl) rfl ?_
    first | refine TL.run1 (pure_load1 Ty.one3 rfl) rfl ?_ | refine TL.run1 (pure_load1_own Ty.one3 rfl (by repeat (first | exact List.Mem.head _ | apply List.Mem.tail)) (by repeat (first | exact DropR.zero _ | apply DropR.succ))) rfl ?_
    refine TL.run1 (pure_assign rfl) rfl ?_
    refine TL.nil' ?_
    refine TC.block ?_
    refine TC.loopX (X := Int) (fun c => [(0, .sl 6 (encRs rs)), (3, .at_ [.v (.int .i64 a.t), .v (.int .i64 a.l), .v (.int .i64 a.b), .v (.int .i64 a.r)]), (5, .v (.int .i64 i)), (6, .v (.int .i64 c))]) (fun c => []) (fun c => (a.l ≤ c) ∧ (c ≤ a.r) ∧ (∀ d : Int, a.l ≤ d → d < c → 0 ≤ atN (rAt rs i) d)) (fun c => (a.r - c).toNat) (a.l) ⟨by skip; repeat (first | exact Agree.nil | refine Agree.cons rfl ?_), by skip; repeat (first | exact List.nil_sublist _ | exact List.Sublist.refl _ | apply List.Sublist.cons_cons | apply List.Sublist.cons)⟩ ?_ ?_
    · skip
      exact ⟨Int.le_refl _, by omega, fun d _ _ => by omega⟩
    intro c
    rintro ⟨c0, c1, c2⟩
    show TC _ _ _ (Env.of [(0, .sl 6 (encRs rs)), (3, .at_ [.v (.int .i64 a.t), .v (.int .i64 a.l), .v (.int .i64 a.b), .v (.int .i64 a.r)]), (5, .v (.int .i64 i)), (6, .v (.int .i64 c))]) []
    refine TC.seq ?_
    refine TC.seq ?_
    refine TC.region ?_
    refine TL.run1 (pure_move rfl) rfl ?_
    first | refine TL.run1 (pure_fieldAddr Ty.f38_3 rfl (.succ (.succ (.succ (.zero _)))) (List.cons_ne_nil _ _)) rfl ?_ | refine TL.run1 (pure_fieldAddr_own Ty.f38_3 rfl) rfl ?_
    first | refine TL.run1 (pure_load1 Ty.one3 rfl) rfl ?_ | refine TL.run1 (pure_load1_own Ty.one3 rfl (by repeat (first | exact List.Mem.head _ | apply List.Mem.tail)) (by repeat (first | exact DropR.zero _ | apply DropR.succ))) rfl ?_
    refine TL.run1 (pure_lss rfl rfl) rfl ?_
    refine TL.nil' ?_
    first | refine TC.condD rfl (fun hc20 => ?_) (fun hc20 => ?_) | refine TC.condN rfl (fun hc20 => ?_) (fun hc20 => ?_) | refine TC.cond rfl (fun hc20 => ?_) (fun hc20 => ?_)
    · try dsimp only at hc20
      refine TC.skip' ?_
      refine TC.seq ?_
      refine TC.block ?_
      refine TC.seq ?_
      have hrow := encRs_get rs i (by omega) (by omega)
      have hro := hr.1 _ (rAt_mem rs i (by omega) (by omega))
      refine TC.region ?_
      refine TL.run1 (pure_move rfl) rfl ?_
      refine TL.run1 (pure_move rfl) rfl ?_
      refine TL.run1 (pure_indexAddr Ty.sl22 rfl rfl (by omega) hrow (by simp [encR])) rfl ?_
      first | refine TL.run1 (pure_load Ty.agg36 rfl (.succ (.succ (.succ (.succ (.succ (.succ (.zero _)))))))) rfl ?_ | refine TL.run1 (pure_load_own Ty.agg36 rfl (by repeat (first | exact List.Mem.head _ | apply List.Mem.tail)) (by repeat (first | exact DropR.zero _ | apply DropR.succ)) (.succ (.succ (.succ (.succ (.succ (.succ (.zero _)))))))) rfl ?_
      refine TL.run1 (pure_move rfl) rfl ?_
      refine TL.run1 (pure_call (RAt_spec _ hro _) (.cons rfl (.cons rfl .nil)) Try.call28) rfl ?_
      refine TL.run1 (pure_lss rfl rfl) rfl ?_
      refine TL.nil' ?_
      first | refine TC.condD rfl (fun hc29 => ?_) (fun hc29 => ?_) | refine TC.condN rfl (fun hc29 => ?_) (fun hc29 => ?_) | refine TC.cond rfl (fun hc29 => ?_) (fun hc29 => ?_)
      · try dsimp only at hc29
        refine TC.seq ?_
        refine TC.region ?_
        refine TL.run1 (pure_assign rfl) rfl ?_
        refine TL.nil' ?_
        refine TC.ret ?_
        refine block_ret ?_
        refine then_ret ?_
        refine loop_ret ?_
        refine block_ret ?_
        refine block_ret ?_
        refine then_ret ?_
        refine loop_ret ?_
        refine block_ret ?_
        refine then_ret ?_
        exact ret_bool rfl (by symm; rw [Bool.eq_false_iff]; intro hb; have := full_at hin (fullB_iff.1 hb) h0 (by omega) c0 (by omega); omega)
      · try dsimp only at hc29
        refine TC.skip ?_
        refine block_normal ?_
        refine then_normal ?_
        refine TC.region ?_
        refine TL.run1 (pure_move rfl) rfl ?_
        refine TL.run1 (pure_add rfl rfl (mkI64 (by omega) (by omega))) rfl ?_
        refine TL.run1 (pure_assign rfl) rfl ?_
        refine TL.nil ?_
        refine loop_next (c + 1) ⟨by repeat (first | exact Agree.nil | refine Agree.cons rfl ?_), by repeat (first | exact List.nil_sublist _ | exact List.Sublist.refl _ | apply List.Sublist.cons_cons | apply List.Sublist.cons)⟩ ⟨by omega, by omega, fun d x y => ?_⟩ (by omega)
        rcases Int.lt_or_eq_of_le (show d ≤ c by omega) with h | h
        · exact c2 d x h
        · rw [h]; omega
    · try dsimp only at hc20
      refine TC.exit ?_
      refine then_exit ?_
      refine loop_exit ?_
      refine block_here ?_
      refine block_normal ?_
      refine then_normal ?_
      refine TC.region ?_
      refine TL.run1 (pure_move rfl) rfl ?_
      refine TL.run1 (pure_add rfl rfl (mkI64 (by omega) (by omega))) rfl ?_
      refine TL.run1 (pure_assign rfl) rfl ?_
      refine TL.nil ?_
      refine loop_next (i + 1) ⟨by repeat (first | exact Agree.nil | refine Agree.cons rfl ?_), by repeat (first | exact List.nil_sublist _ | exact List.Sublist.refl _ | apply List.Sublist.cons_cons | apply List.Sublist.cons)⟩ ⟨by omega, by omega, fun j x y => ?_⟩ (by omega)
      rcases Int.lt_or_eq_of_le (show j ≤ i by omega) with h | h
      · exact h2 j x h
      · rw [h]; exact fun c0 x y => c2 c0 x (by omega)
  · try dsimp only at hc12
    refine TC.exit ?_
    refine then_exit ?_
    refine loop_exit ?_
    refine block_here ?_
    refine then_normal ?_
    refine TC.seq ?_
    refine TC.region ?_
    refine TL.run1 (pure_assign rfl) rfl ?_
    refine TL.nil' ?_
    refine TC.ret ?_
    exact ret_bool rfl (fullB_iff.2 (full_all hin fun j x y => h2 j x (by omega))).symm
set_option maxRecDepth 100000 in
theorem empty_spec (rs : List RowD) (hr : TabOk rs) (a : A4) (hin : InsideA rs a) : Fun Try.prog 34 [.sl 6 (encRs rs), .agg (encA a)] (.v (.bool (!fillB rs a))) := by
  refine Fun.enter (n := 76) (rs := [.tmp 4]) Try.func34 rfl Try.ntmps34 Try.results34 rfl (fun w F => ?_)
  have hk := encRs_len rs
  have hrl0 := hr.2
  have hin0 := id hin
  unfold InsideA at hin0
  have hia := hin.inA
  unfold InA at hia
  refine TC.seq ?_
  refine TC.region ?_
  refine TL.box rfl (.agg _) rfl (fun g3 => ?_)
  refine TL.run1 (pure_assign rfl) rfl ?_
  refine TL.nil' ?_
  refine TC.seq ?_
  refine TC.seq ?_
  refine TC.freezeBox 3 (List.cons_ne_nil _ _) (.here _) rfl ?_
  refine TC.region ?_
  first | refine TL.run1 (pure_fieldAddr Ty.f38_0 rfl (.zero _) (List.cons_ne_nil _ _)) rfl ?_ | refine TL.run1 (pure_fieldAddr_own Ty.f38_0 rfl) rfl ?_
  first | refine TL.run1 (pure_load1 Ty.one3 rfl) rfl ?_ | refine TL.run1 (pure_load1_own Ty.one3 rfl (by repeat (first | exact List.Mem.head _ | apply List.Mem.tail)) (by repeat (first | exact DropR.zero _ | apply DropR.succ))) rfl ?_
  refine TL.run1 (pure_assign rfl) rfl ?_
  refine TL.nil' ?_
  refine TC.block ?_
  refine TC.loopX (X := Int) (fun i => [(0, .sl 6 (encRs rs)), (3, .at_ [.v (.int .i64 a.t), .v (.int .i64 a.l), .v (.int .i64 a.b), .v (.int .i64 a.r)]), (5, .v (.int .i64 i))]) (fun i => []) (fun i => (a.t ≤ i) ∧ (i ≤ a.b) ∧ (¬ FillTo rs a i 0)) (fun i => (a.b - i).toNat) (a.t) ⟨by skip; repeat (first | exact Agree.nil | refine Agree.cons rfl ?_), by skip; repeat (first | exact List.nil_sublist _ | exact List.Sublist.refl _ | apply List.Sublist.cons_cons | apply List.Sublist.cons)⟩ ?_ ?_
  · skip
    exact ⟨Int.le_refl _, by omega, FillTo.zero rs a⟩
  intro i
  rintro ⟨h0, h1, h2⟩
  show TC _ _ _ (Env.of [(0, .sl 6 (encRs rs)), (3, .at_ [.v (.int .i64 a.t), .v (.int .i64 a.l), .v (.int .i64 a.b), .v (.int .i64 a.r)]), (5, .v (.int .i64 i))]) []
  refine TC.seq ?_
  refine TC.seq ?_
  refine TC.region ?_
  refine TL.run1 (pure_move rfl) rfl ?_
  first | refine TL.run1 (pure_fieldAddr Ty.f38_2 rfl (.succ (.succ (.zero _))) (List.cons_ne_nil _ _)) rfl ?_ | refine TL.run1 (pure_fieldAddr_own Ty.f38_2 rfl) rfl ?_
  first | refine TL.run1 (pure_load1 Ty.one3 rfl) rfl ?_ | refine TL.run1 (pure_load1_own Ty.one3 rfl (by repeat (first | exact List.Mem.head _ | apply List.Mem.tail)) (by repeat (first | exact DropR.zero _ | apply DropR.succ))) rfl ?_
  refine TL.run1 (pure_lss rfl rfl) rfl ?_
  refine TL.nil' ?_
  first | refine TC.condD rfl (fun hc14 => ?_) (fun hc14 => ?_) | refine TC.condN rfl (fun hc14 => ?_) (fun hc14 => ?_) | refine TC.cond rfl (fun hc14 => ?_) (fun hc14 => ?_)
  · try dsimp only at hc14
    refine TC.skip' ?_
    refine TC.seq ?_
    refine TC.block ?_
    refine TC.seq ?_
    refine TC.region ?_
    refine TL.run1 (pure_assign rfl) rfl ?_
    refine TL.nil' ?_
    refine TC.block ?_
    refine TC.loopX (X := Int) (fun k => [(0, .sl 6 (encRs rs)), (3, .at_ [.v (.int .i64 a.t), .v (.int .i64 a.l), .v (.int .i64 a.b), .v (.int .i64 a.r)]), (5, .v (.int .i64 i)), (6, .v (.int .i64 k))]) (fun k => []) (fun k => (0 ≤ k) ∧ (k ≤ (rAt rs i).cells.length) ∧ (¬ FillTo rs a i k)) (fun k => ((rAt rs i).cells.length - k).toNat) (0) ⟨by skip; repeat (first | exact Agree.nil | refine Agree.cons rfl ?_), by skip; repeat (first | exact List.nil_sublist _ | exact List.Sublist.refl _ | apply List.Sublist.cons_cons | apply List.Sublist.cons)⟩ ?_ ?_
    · skip
      exact ⟨Int.le_refl _, by omega, h2⟩
    intro k
    rintro ⟨k0, k1, k2⟩
    show TC _ _ _ (Env.of [(0, .sl 6 (encRs rs)), (3, .at_ [.v (.int .i64 a.t), .v (.int .i64 a.l), .v (.int .i64 a.b), .v (.int .i64 a.r)]), (5, .v (.int .i64 i)), (6, .v (.int .i64 k))]) []
    refine TC.seq ?_
    refine TC.seq ?_
    have hrow := encRs_get rs i (by omega) (by omega)
    have hro := hr.1 _ (rAt_mem rs i (by omega) (by omega))
    have hck := encCs_len (rAt rs i).cells
    have hrl := hro.2.1
    refine TC.region ?_
    refine TL.run1 (pure_move rfl) rfl ?_
    refine TL.run1 (pure_move rfl) rfl ?_
    refine TL.run1 (pure_move rfl) rfl ?_
    refine TL.run1 (pure_indexAddr Ty.sl22 rfl rfl (by omega) hrow (by simp [encR])) rfl ?_
    first | refine TL.run1 (pure_fieldAddr Ty.f36_1 rfl (.succ (.succ (.succ (.succ (.succ (.zero _)))))) (List.cons_ne_nil _ _)) rfl ?_ | refine TL.run1 (pure_fieldAddr_own Ty.f36_1 rfl) rfl ?_
    first | refine TL.run1 (pure_load1 Ty.one34 rfl) rfl ?_ | refine TL.run1 (pure_load1_own Ty.one34 rfl (by repeat (first | exact List.Mem.head _ | apply List.Mem.tail)) (by repeat (first | exact DropR.zero _ | apply DropR.succ))) rfl ?_
    first | refine TL.run1 (pure_len Ty.sl34 rfl) rfl ?_ | refine TL.run1 (pure_len_row Ty.sl34 rfl (by repeat (first | exact List.Mem.head _ | apply List.Mem.tail))) rfl ?_ | refine TL.run1 (pure_len_nil Ty.sl34 rfl) rfl ?_
    refine TL.run1 (pure_lss rfl rfl) rfl ?_
    refine TL.nil' ?_
    first | refine TC.condD rfl (fun hc24 => ?_) (fun hc24 => ?_) | refine TC.condN rfl (fun hc24 => ?_) (fun hc24 => ?_) | refine TC.cond rfl (fun hc24 => ?_) (fun hc24 => ?_)
    · try dsimp only at hc24
      refine TC.skip' ?_
      refine TC.seq ?_
      refine TC.block ?_
      refine TC.seq ?_
      refine TC.region ?_
      refine TL.run1 (pure_move rfl) rfl ?_
      refine TL.run1 (pure_move rfl) rfl ?_
      refine TL.run1 (pure_indexAddr Ty.sl22 rfl rfl (by omega) hrow (by simp [encR])) rfl ?_
      first | refine TL.run1 (pure_load Ty.agg36 rfl (.succ (.succ (.succ (.succ (.succ (.succ (.zero _)))))))) rfl ?_ | refine TL.run1 (pure_load_own Ty.agg36 rfl (by repeat (first | exact List.Mem.head _ | apply List.Mem.tail)) (by repeat (first | exact DropR.zero _ | apply DropR.succ)) (.succ (.succ (.succ (.succ (.succ (.succ (.zero _)))))))) rfl ?_
      refine TL.run1 (pure_move rfl) rfl ?_
      refine TL.run1 (pure_call (span_spec _ hro k k0 (by omega)) (.cons rfl (.cons rfl .nil)) Try.call19) rfl ?_
      refine TL.run1 (pure_move rfl) rfl ?_
      refine TL.run1 (pure_extract rfl rfl) rfl ?_
      refine TL.run1 (pure_extract rfl rfl) rfl ?_
      refine TL.run1 (pure_assign rfl) rfl ?_
      refine TL.run1 (pure_assign rfl) rfl ?_
      refine TL.nil' ?_
      have hcell := encCs_get (rAt rs i).cells k k0 (by omega)
      have hfa := fill_at (rs := rs) (a := a) (i := i) (k := k) (by omega) (by omega) k0 (by omega)
      refine TC.regionCut [36, 37, 38, 39, 40, 41, 42, 43, 44, 45, 46, 47, 48, 49, 50, 51, 52, 53, 54, 55, 56, 57, 58, 59, 60, 61, 62, 63, 64, 65, 66, 67, 68, 69, 70, 71, 72, 73, 74, 75] 75 (((sAt (spansR (rAt rs i)) k).1 < (sAt (spansR (rAt rs i)) k).2 ∧ (sAt (spansR (rAt rs i)) k).1 ≥ a.l ∧ (sAt (spansR (rAt rs i)) k).1 < a.r ∧ ((cAt (rAt rs i).cells k).flow.length : Int) > 0 ∧ (i ≠ a.t ∨ (sAt (spansR (rAt rs i)) k).1 ≠ a.l))) ?_ ?_
      · skip
        refine TL.run1 (pure_move rfl) rfl ?_
        refine TL.run1 (pure_move rfl) rfl ?_
        refine TL.run1 (pure_lss rfl rfl) rfl ?_
        refine TL.run1 (pure_move rfl) rfl ?_
        first | refine TL.splitP 39 rfl (fun hg39 => ?_) (fun hg39 => ?_) | refine TL.split 39 rfl (fun hg39 => ?_) (fun hg39 => ?_)
        · try dsimp only at hg39
          refine TL.runG rfl rfl (pure_move rfl) rfl ?_
          first | refine TL.runG rfl rfl (pure_fieldAddr Ty.f38_1 rfl (.succ (.zero _)) (List.cons_ne_nil _ _)) rfl ?_ | refine TL.runG rfl rfl (pure_fieldAddr_own Ty.f38_1 rfl) rfl ?_
          first | refine TL.runG rfl rfl (pure_load1 Ty.one3 rfl) rfl ?_ | refine TL.runG rfl rfl (pure_load1_own Ty.one3 rfl (by repeat (first | exact List.Mem.head _ | apply List.Mem.tail)) (by repeat (first | exact DropR.zero _ | apply DropR.succ))) rfl ?_
          refine TL.runG rfl rfl (pure_geq rfl rfl) rfl ?_
          refine TL.run1 (pure_pick_true rfl rfl) rfl ?_
          refine TL.run1 (pure_move rfl) rfl ?_
          first | refine TL.splitP 45 rfl (fun hg45 => ?_) (fun hg45 => ?_) | refine TL.split 45 rfl (fun hg45 => ?_) (fun hg45 => ?_)
          · try dsimp only at hg45
            refine TL.runG rfl rfl (pure_move rfl) rfl ?_
            first | refine TL.runG rfl rfl (pure_fieldAddr Ty.f38_3 rfl (.succ (.succ (.succ (.zero _)))) (List.cons_ne_nil _ _)) rfl ?_ | refine TL.runG rfl rfl (pure_fieldAddr_own Ty.f38_3 rfl) rfl ?_
            first | refine TL.runG rfl rfl (pure_load1 Ty.one3 rfl) rfl ?_ | refine TL.runG rfl rfl (pure_load1_own Ty.one3 rfl (by repeat (first | exact List.Mem.head _ | apply List.Mem.tail)) (by repeat (first | exact DropR.zero _ | apply DropR.succ))) rfl ?_
            refine TL.runG rfl rfl (pure_lss rfl rfl) rfl ?_
            refine TL.run1 (pure_pick_true rfl rfl) rfl ?_
            refine TL.run1 (pure_move rfl) rfl ?_
            first | refine TL.splitP 51 rfl (fun hg51 => ?_) (fun hg51 => ?_) | refine TL.split 51 rfl (fun hg51 => ?_) (fun hg51 => ?_)
            · try dsimp only at hg51
              refine TL.runG rfl rfl (pure_move rfl) rfl ?_
              refine TL.runG rfl rfl (pure_move rfl) rfl ?_
              refine TL.runG rfl rfl (pure_indexAddr Ty.sl22 rfl rfl (by omega) hrow (by simp [encR])) rfl ?_
              first | refine TL.runG rfl rfl (pure_fieldAddr Ty.f36_1 rfl (.succ (.succ (.succ (.succ (.succ (.zero _)))))) (List.cons_ne_nil _ _)) rfl ?_ | refine TL.runG rfl rfl (pure_fieldAddr_own Ty.f36_1 rfl) rfl ?_
              first | refine TL.runG rfl rfl (pure_load1 Ty.one34 rfl) rfl ?_ | refine TL.runG rfl rfl (pure_load1_own Ty.one34 rfl (by repeat (first | exact List.Mem.head _ | apply List.Mem.tail)) (by repeat (first | exact DropR.zero _ | apply DropR.succ))) rfl ?_
              refine TL.runG rfl rfl (pure_move rfl) rfl ?_
              refine TL.runG rfl rfl (pure_indexAddr Ty.sl34 rfl rfl (by omega) hcell (List.cons_ne_nil _ _)) rfl ?_
              first | refine TL.runG rfl rfl (pure_fieldAddr Ty.f74_2 rfl (.succ (.succ (.succ (.succ (.succ (.succ (.zero _))))))) (List.cons_ne_nil _ _)) rfl ?_ | refine TL.runG rfl rfl (pure_fieldAddr_own Ty.f74_2 rfl) rfl ?_
              first | refine TL.runG rfl rfl (pure_load1 Ty.one72 rfl) rfl ?_ | refine TL.runG rfl rfl (pure_load1_own Ty.one72 rfl (by repeat (first | exact List.Mem.head _ | apply List.Mem.tail)) (by repeat (first | exact DropR.zero _ | apply DropR.succ))) rfl ?_
              first | refine TL.runG rfl rfl (pure_len Ty.sl72 rfl) rfl ?_ | refine TL.runG rfl rfl (pure_len_row Ty.sl72 rfl (by repeat (first | exact List.Mem.head _ | apply List.Mem.tail))) rfl ?_ | refine TL.runG rfl rfl (pure_len_nil Ty.sl72 rfl) rfl ?_
              refine TL.runG rfl rfl (pure_gtr rfl rfl) rfl ?_
              refine TL.run1 (pure_pick_true rfl rfl) rfl ?_
              refine TL.run1 (pure_move rfl) rfl ?_
              first | refine TL.splitP 64 rfl (fun hg64 => ?_) (fun hg64 => ?_) | refine TL.split 64 rfl (fun hg64 => ?_) (fun hg64 => ?_)
              · try dsimp only at hg64
                refine TL.runG rfl rfl (pure_move rfl) rfl ?_
                first | refine TL.runG rfl rfl (pure_fieldAddr Ty.f38_0 rfl (.zero _) (List.cons_ne_nil _ _)) rfl ?_ | refine TL.runG rfl rfl (pure_fieldAddr_own Ty.f38_0 rfl) rfl ?_
                first | refine TL.runG rfl rfl (pure_load1 Ty.one3 rfl) rfl ?_ | refine TL.runG rfl rfl (pure_load1_own Ty.one3 rfl (by repeat (first | exact List.Mem.head _ | apply List.Mem.tail)) (by repeat (first | exact DropR.zero _ | apply DropR.succ))) rfl ?_
                refine TL.runG rfl rfl (pure_neq rfl rfl) rfl ?_
                refine TL.runG rfl rfl (pure_move rfl) rfl ?_
                first | refine TL.splitP 69 rfl (fun hg69 => ?_) (fun hg69 => ?_) | refine TL.split 69 rfl (fun hg69 => ?_) (fun hg69 => ?_)
                · try dsimp only at hg69
                  refine TL.passG rfl rfl rfl rfl ?_
                  refine TL.passG rfl rfl rfl rfl ?_
                  refine TL.passG rfl rfl rfl rfl ?_
                  refine TL.passG rfl rfl rfl rfl ?_
                  refine TL.runG rfl rfl (pure_pick_true rfl rfl) rfl ?_
                  refine TL.run1 (pure_pick_true rfl rfl) rfl ?_
                  refine TL.cutEnd (by repeat (first | exact Same.refl _ _ | refine Same.put rfl ?_)) rfl ?_
                  first | (simp only [decide_eq_true_eq, Bool.false_eq_true, false_iff, true_iff, iff_true, iff_false, Bool.not_eq_true]; omega) | (simp_all; done) | (simp_all; omega) | grind
                · try dsimp only at hg69
                  refine TL.runG rfl rfl (pure_move rfl) rfl ?_
                  first | refine TL.runG rfl rfl (pure_fieldAddr Ty.f38_1 rfl (.succ (.zero _)) (List.cons_ne_nil _ _)) rfl ?_ | refine TL.runG rfl rfl (pure_fieldAddr_own Ty.f38_1 rfl) rfl ?_
                  first | refine TL.runG rfl rfl (pure_load1 Ty.one3 rfl) rfl ?_ | refine TL.runG rfl rfl (pure_load1_own Ty.one3 rfl (by repeat (first | exact List.Mem.head _ | apply List.Mem.tail)) (by repeat (first | exact DropR.zero _ | apply DropR.succ))) rfl ?_
                  refine TL.runG rfl rfl (pure_neq rfl rfl) rfl ?_
                  refine TL.runG rfl rfl (pure_pick_false rfl rfl) rfl ?_
                  refine TL.run1 (pure_pick_true rfl rfl) rfl ?_
                  refine TL.cutEnd (by repeat (first | exact Same.refl _ _ | refine Same.put rfl ?_)) rfl ?_
                  first | (simp only [decide_eq_true_eq, Bool.false_eq_true, false_iff, true_iff, iff_true, iff_false, Bool.not_eq_true]; omega) | (simp_all; done) | (simp_all; omega) | grind
              · try dsimp only at hg64
                refine TL.passG rfl rfl rfl rfl ?_
                refine TL.passG rfl rfl rfl rfl ?_
                refine TL.passG rfl rfl rfl rfl ?_
                refine TL.passG rfl rfl rfl rfl ?_
                refine TL.passG rfl rfl rfl rfl ?_
                refine TL.passG rfl rfl rfl rfl ?_
                refine TL.passG rfl rfl rfl rfl ?_
                refine TL.passG rfl rfl rfl rfl ?_
                refine TL.passG rfl rfl rfl rfl ?_
                refine TL.passG rfl rfl rfl rfl ?_
                refine TL.run1 (pure_pick_false rfl rfl) rfl ?_
                refine TL.cutEnd (by repeat (first | exact Same.refl _ _ | refine Same.put rfl ?_)) rfl ?_
                first | (simp only [decide_eq_true_eq, Bool.false_eq_true, false_iff, true_iff, iff_true, iff_false, Bool.not_eq_true]; omega) | (simp_all; done) | (simp_all; omega) | grind
            · try dsimp only at hg51
              refine TL.passG rfl rfl rfl rfl ?_
              refine TL.passG rfl rfl rfl rfl ?_
              refine TL.passG rfl rfl rfl rfl ?_
              refine TL.passG rfl rfl rfl rfl ?_
              refine TL.passG rfl rfl rfl rfl ?_
              refine TL.passG rfl rfl rfl rfl ?_
              refine TL.passG rfl rfl rfl rfl ?_
              refine TL.passG rfl rfl rfl rfl ?_
              refine TL.passG rfl rfl rfl rfl ?_
              refine TL.passG rfl rfl rfl rfl ?_
              refine TL.passG rfl rfl rfl rfl ?_
              refine TL.run1 (pure_pick_false rfl rfl) rfl ?_
              refine TL.run1 (pure_move rfl) rfl ?_
              refine TL.passG rfl rfl rfl rfl ?_
              refine TL.passG rfl rfl rfl rfl ?_
              refine TL.passG rfl rfl rfl rfl ?_
              refine TL.passG rfl rfl rfl rfl ?_
              refine TL.passG rfl rfl rfl rfl ?_
              refine TL.passG rfl rfl rfl rfl ?_
              refine TL.passG rfl rfl rfl rfl ?_
              refine TL.passG rfl rfl rfl rfl ?_
              refine TL.passG rfl rfl rfl rfl ?_
              refine TL.passG rfl rfl rfl rfl ?_
              refine TL.run1 (pure_pick_false rfl rfl) rfl ?_
              refine TL.cutEnd (by repeat (first | exact Same.refl _ _ | refine Same.put rfl ?_)) rfl ?_
              first | (simp only [decide_eq_true_eq, Bool.false_eq_true, false_iff, true_iff, iff_true, iff_false, Bool.not_eq_true]; omega) | (simp_all; done) | (simp_all; omega) | grind
          · try dsimp only at hg45
            refine TL.passG rfl rfl rfl rfl ?_
            refine TL.passG rfl rfl rfl rfl ?_
            refine TL.passG rfl rfl rfl rfl ?_
            refine TL.passG rfl rfl rfl rfl ?_
            refine TL.run1 (pure_pick_false rfl rfl) rfl ?_
            refine TL.run1 (pure_move rfl) rfl ?_
            refine TL.passG rfl rfl rfl rfl ?_
            refine TL.passG rfl rfl rfl rfl ?_
            refine TL.passG rfl rfl rfl rfl ?_
            refine TL.passG rfl rfl rfl rfl ?_
            refine TL.passG rfl rfl rfl rfl ?_
            refine TL.passG rfl rfl rfl rfl ?_
            refine TL.passG rfl rfl rfl rfl ?_
            refine TL.passG rfl rfl rfl rfl ?_
            refine TL.passG rfl rfl rfl rfl ?_
            refine TL.passG rfl rfl rfl rfl ?_
            refine TL.passG rfl rfl rfl rfl ?_
            refine TL.run1 (pure_pick_false rfl rfl) rfl ?_
            refine TL.run1 (pure_move rfl) rfl ?_
            refine TL.passG rfl rfl rfl rfl ?_
            refine TL.passG rfl rfl rfl rfl ?_
            refine TL.passG rfl rfl rfl rfl ?_
            refine TL.passG rfl rfl rfl rfl ?_
            refine TL.passG rfl rfl rfl rfl ?_
            refine TL.passG rfl rfl rfl rfl ?_
            refine TL.passG rfl rfl rfl rfl ?_
            refine TL.passG rfl rfl rfl rfl ?_
            refine TL.passG rfl rfl rfl rfl ?_
            refine TL.passG rfl rfl rfl rfl ?_
            refine TL.run1 (pure_pick_false rfl rfl) rfl ?_
            refine TL.cutEnd (by repeat (first | exact Same.refl _ _ | refine Same.put rfl ?_)) rfl ?_
            first | (simp only [decide_eq_true_eq, Bool.false_eq_true, false_iff, true_iff, iff_true, iff_false, Bool.not_eq_true]; omega) | (simp_all; done) | (simp_all; omega) | grind
        · try dsimp only at hg39
          refine TL.passG rfl rfl rfl rfl ?_
          refine TL.passG rfl rfl rfl rfl ?_
          refine TL.passG rfl rfl rfl rfl ?_
          refine TL.passG rfl rfl rfl rfl ?_
          refine TL.run1 (pure_pick_false rfl rfl) rfl ?_
          refine TL.run1 (pure_move rfl) rfl ?_
          refine TL.passG rfl rfl rfl rfl ?_
          refine TL.passG rfl rfl rfl rfl ?_
          refine TL.passG rfl rfl rfl rfl ?_
          refine TL.passG rfl rfl rfl rfl ?_
          refine TL.run1 (pure_pick_false rfl rfl) rfl ?_
          refine TL.run1 (pure_move rfl) rfl ?_
          refine TL.passG rfl rfl rfl rfl ?_
          refine TL.passG rfl rfl rfl rfl ?_
          refine TL.passG rfl rfl rfl rfl ?_
          refine TL.passG rfl rfl rfl rfl ?_
          refine TL.passG rfl rfl rfl rfl ?_
          refine TL.passG rfl rfl rfl rfl ?_
          refine TL.passG rfl rfl rfl rfl ?_
          refine TL.passG rfl rfl rfl rfl ?_
          refine TL.passG rfl rfl rfl rfl ?_
          refine TL.passG rfl rfl rfl rfl ?_
          refine TL.passG rfl rfl rfl rfl ?_
          refine TL.run1 (pure_pick_false rfl rfl) rfl ?_
          refine TL.run1 (pure_move rfl) rfl ?_
          refine TL.passG rfl rfl rfl rfl ?_
          refine TL.passG rfl rfl rfl rfl ?_
          refine TL.passG rfl rfl rfl rfl ?_
          refine TL.passG rfl rfl rfl rfl ?_
          refine TL.passG rfl rfl rfl rfl ?_
          refine TL.passG rfl rfl rfl rfl ?_
          refine TL.passG rfl rfl rfl rfl ?_
          refine TL.passG rfl rfl rfl rfl ?_
          refine TL.passG rfl rfl rfl rfl ?_
          refine TL.passG rfl rfl rfl rfl ?_
          refine TL.run1 (pure_pick_false rfl rfl) rfl ?_
          refine TL.cutEnd (by repeat (first | exact Same.refl _ _ | refine Same.put rfl ?_)) rfl ?_
          first | (simp only [decide_eq_true_eq, Bool.false_eq_true, false_iff, true_iff, iff_true, iff_false, Bool.not_eq_true]; omega) | (simp_all; done) | (simp_all; omega) | grind
      first | refine TC.condD rfl (fun hc75 => ?_) (fun hc75 => ?_) | refine TC.condN rfl (fun hc75 => ?_) (fun hc75 => ?_) | refine TC.cond rfl (fun hc75 => ?_) (fun hc75 => ?_)
      · try dsimp only at hc75
        refine TC.seq ?_
        refine TC.region ?_
        refine TL.run1 (pure_assign rfl) rfl ?_
        refine TL.nil' ?_
        refine TC.ret ?_
        refine block_ret ?_
        refine then_ret ?_
        refine loop_ret ?_
        refine block_ret ?_
        refine block_ret ?_
        refine then_ret ?_
        refine loop_ret ?_
        refine block_ret ?_
        refine then_ret ?_
        have hb : fillB rs a = true := fillB_iff.2 ⟨i, k, h0, by omega, hfa.2 hc75⟩
        exact ret_bool rfl (by rw [hb]; rfl)
      · try dsimp only at hc75
        refine TC.skip ?_
        refine block_normal ?_
        refine then_normal ?_
        refine TC.region ?_
        refine TL.run1 (pure_move rfl) rfl ?_
        refine TL.run1 (pure_add rfl rfl (mkI64 (by omega) (by omega))) rfl ?_
        refine TL.run1 (pure_assign rfl) rfl ?_
        refine TL.nil ?_
        refine loop_next (k + 1) ⟨by repeat (first | exact Agree.nil | refine Agree.cons rfl ?_), by repeat (first | exact List.nil_sublist _ | exact List.Sublist.refl _ | apply List.Sublist.cons_cons | apply List.Sublist.cons)⟩ ⟨by omega, by omega, ?_⟩ (by omega)
        rw [FillTo.step h0]
        rintro (h | h)
        · exact k2 h
        · exact hc75 (hfa.1 h)
    · try dsimp only at hc24
      refine TC.exit ?_
      refine then_exit ?_
      refine loop_exit ?_
      refine block_here ?_
      refine block_normal ?_
      refine then_normal ?_
      refine TC.region ?_
      refine TL.run1 (pure_move rfl) rfl ?_
      refine TL.run1 (pure_add rfl rfl (mkI64 (by omega) (by omega))) rfl ?_
      refine TL.run1 (pure_assign rfl) rfl ?_
      refine TL.nil ?_
      refine loop_next (i + 1) ⟨by repeat (first | exact Agree.nil | refine Agree.cons rfl ?_), by repeat (first | exact List.nil_sublist _ | exact List.Sublist.refl _ | apply List.Sublist.cons_cons | apply List.Sublist.cons)⟩ ⟨by omega, by omega, ?_⟩ (by omega)
      rw [← FillTo.row]
      have hke : k = (ncN rs i : Int) := by (unfold ncN; omega)
      rw [← hke]; exact k2
  · try dsimp only at hc14
    refine TC.exit ?_
    refine then_exit ?_
    refine loop_exit ?_
    refine block_here ?_
    refine then_normal ?_
    refine TC.seq ?_
    refine TC.region ?_
    refine TL.run1 (pure_assign rfl) rfl ?_
    refine TL.nil' ?_
    refine TC.ret ?_
    have hie : i = a.b := by omega
    rw [hie, FillTo.all] at h2
    have hb : fillB rs a = false := by (rw [Bool.eq_false_iff]; exact fun h => h2 (fillB_iff.1 h))
    exact ret_bool rfl (by rw [hb]; rfl)
end Go.Ob
set_option linter.unusedVariables false
set_option linter.unusedSimpArgs false
namespace Go.Ob
open Go.Proofs
theorem A4.ext_iff {a b : A4} : a = b ↔ a.t = b.t ∧ a.l = b.l ∧ a.b = b.b ∧ a.r = b.r := by
  cases a; cases b; simp only [A4.mk.injEq]
set_option maxHeartbeats 1000000 in
set_option maxRecDepth 100000 in
theorem GridMerges_spec (I : List D → Prop) (hI : ∀ x, I x → Fun Try.prog 86 [.agg x] (.agg x)) (rs : List RowD) (hB : TabB I rs) (hT : TabT rs) (a : A4) : Fun Try.prog 11 [.sl 6 (encRs rs), .agg [.v (.int .i64 a.t), .v (.int .i64 a.l), .v (.int .i64 a.b), .v (.int .i64 a.r)]] (.v (.bool true)) := by
  refine Fun.enter (n := 164) (rs := [.tmp 4]) Try.func11 rfl Try.ntmps11 Try.results11 rfl (fun w F => ?_)
  have hk := encRs_len rs
  refine TC.seq ?_
  refine TC.region ?_
  refine TL.box rfl (.agg _) rfl (fun g3 => ?_)
  refine TL.run1 (pure_assign rfl) rfl ?_
  refine TL.nil' ?_
  refine TC.seq ?_
  refine TC.regionCut [15, 16, 17, 18, 19, 20, 21] 21 (smallB rs = false) ?_ ?_
  · skip
    refine TL.run1 (pure_call (known_spec) .nil Try.call12) rfl ?_
    refine TL.run1 (pure_not rfl) rfl ?_
    refine TL.run1 (pure_move rfl) rfl ?_
    first | refine TL.splitP 17 rfl (fun hg17 => ?_) (fun hg17 => ?_) | refine TL.split 17 rfl (fun hg17 => ?_) (fun hg17 => ?_)
    · try dsimp only at hg17
      refine TL.passG rfl rfl rfl rfl ?_
      refine TL.passG rfl rfl rfl rfl ?_
      refine TL.passG rfl rfl rfl rfl ?_
      refine TL.run1 (pure_pick_true rfl rfl) rfl ?_
      refine TL.cutEnd (by repeat (first | exact Same.refl _ _ | refine Same.put rfl ?_)) rfl ?_
      first | (simp only [decide_eq_true_eq, Bool.false_eq_true, false_iff, true_iff, iff_true, iff_false, Bool.not_eq_true]; omega) | (simp_all; done) | (simp_all; omega) | grind
    · try dsimp only at hg17
      refine TL.runG rfl rfl (pure_move rfl) rfl ?_
      refine TL.runG rfl rfl (pure_call (Small_spec _) (.cons rfl .nil) Try.call13) rfl ?_
      refine TL.runG rfl rfl (pure_not rfl) rfl ?_
      refine TL.run1 (pure_pick_false rfl rfl) rfl ?_
      refine TL.cutEnd (by repeat (first | exact Same.refl _ _ | refine Same.put rfl ?_)) rfl ?_
      first | (simp only [decide_eq_true_eq, Bool.false_eq_true, false_iff, true_iff, iff_true, iff_false, Bool.not_eq_true]; omega) | (simp_all; done) | (simp_all; omega) | grind
  first | refine TC.condD rfl (fun hc21 => ?_) (fun hc21 => ?_) | refine TC.condN rfl (fun hc21 => ?_) (fun hc21 => ?_) | refine TC.cond rfl (fun hc21 => ?_) (fun hc21 => ?_)
  · try dsimp only at hc21
    refine TC.seq ?_
    refine TC.region ?_
    refine TL.run1 (pure_call (known_spec) .nil Try.call12) rfl ?_
    refine TL.run1 (pure_assign rfl) rfl ?_
    refine TL.nil' ?_
    refine TC.ret ?_
    refine then_ret ?_
    exact ret_bool rfl rfl
  · try dsimp only at hc21
    have hsm : SmallT rs := (smallB_iff rs).1 (by simpa using hc21)
    have hr := hsm.ok
    have hl : rs.length ≤ 2000 := by have := hsm.1; omega
    have hql : (layRects rs).length ≤ 2000 * rs.length := (lay_ok (fun r hh => (hr.1 r hh).2.2) rs.length (Nat.le_refl _)).len
    have hP : ∀ r ∈ rs, ∀ c ∈ r.cells, c.props.length ≤ 900 := fun r h => (hsm.cells r h).2
    refine TC.skip' ?_
    refine TC.seq ?_
    refine TC.region ?_
    refine TL.run1 (pure_move rfl) rfl ?_
    first | refine TL.run1 (pure_load Ty.agg38 rfl (.succ (.succ (.succ (.succ (.zero _)))))) rfl ?_ | refine TL.run1 (pure_load_own Ty.agg38 rfl (by repeat (first | exact List.Mem.head _ | apply List.Mem.tail)) (by repeat (first | exact DropR.zero _ | apply DropR.succ)) (.succ (.succ (.succ (.succ (.zero _)))))) rfl ?_
    refine TL.run1 (pure_call (GMerge_spec I hI rs hr hl hB hP a) (.cons rfl (.cons rfl .nil)) Try.call32) rfl ?_
    refine TL.run1 (pure_move rfl) rfl ?_
    refine TL.run1 (pure_extract rfl rfl) rfl ?_
    refine TL.run1 (pure_extract rfl rfl) rfl ?_
    refine TL.run1 (pure_assign rfl) rfl ?_
    refine TL.run1 (pure_assign rfl) rfl ?_
    refine TL.nil' ?_
    refine TC.seq ?_
    refine TC.region ?_
    refine TL.run1 (pure_assign rfl) rfl ?_
    refine TL.nil' ?_
    refine TC.seq ?_
    refine TC.block ?_
    refine TC.seq ?_
    refine TC.freezeBox 3 (List.cons_ne_nil _ _) (.here _) rfl ?_
    refine TC.region ?_
    refine TL.run1 (pure_move rfl) rfl ?_
    first | refine TL.run1 (pure_load Ty.agg38 rfl (.succ (.succ (.succ (.succ (.zero _)))))) rfl ?_ | refine TL.run1 (pure_load_own Ty.agg38 rfl (by repeat (first | exact List.Mem.head _ | apply List.Mem.tail)) (by repeat (first | exact DropR.zero _ | apply DropR.succ)) (.succ (.succ (.succ (.succ (.zero _)))))) rfl ?_
    refine TL.run1 (pure_call (inside_spec rs hr a) (.cons rfl (.cons rfl .nil)) Try.call21) rfl ?_
    refine TL.run1 (pure_not rfl) rfl ?_
    refine TL.run1 (pure_assign rfl) rfl ?_
    refine TL.nil' ?_
    first | refine TC.condD rfl (fun hc29 => ?_) (fun hc29 => ?_) | refine TC.condN rfl (fun hc29 => ?_) (fun hc29 => ?_) | refine TC.cond rfl (fun hc29 => ?_) (fun hc29 => ?_)
    · try dsimp only at hc29
      refine TC.region ?_
      refine TL.run1 (pure_assign rfl) rfl ?_
      refine TL.nil ?_
      refine block_normal ?_
      refine then_normal ?_
      refine TC.seq ?_
      refine TC.seq ?_
      have hnin : ¬ InsideA rs a := by simpa using hc29
      have hE := mrgE_1 hnin
      rw [mrgV_bad (by rw [hE]; decide), hE]
      refine TC.region ?_
      refine TL.run1 (pure_move rfl) rfl ?_
      refine TL.run1 (pure_neq rfl rfl) rfl ?_
      refine TL.nil' ?_
      first | refine TC.condD rfl (fun hc52 => ?_) (fun hc52 => ?_) | refine TC.condN rfl (fun hc52 => ?_) (fun hc52 => ?_) | refine TC.cond rfl (fun hc52 => ?_) (fun hc52 => ?_)
      · try dsimp only at hc52
        refine TC.regionCut [53, 54, 55, 56, 57, 58, 59, 60, 4] 4 (True) ?_ ?_
        · skip
          refine TL.run1 (pure_move rfl) rfl ?_
          first | refine TL.run1 (pure_len Ty.sl22 rfl) rfl ?_ | refine TL.run1 (pure_len_row Ty.sl22 rfl (by repeat (first | exact List.Mem.head _ | apply List.Mem.tail))) rfl ?_ | refine TL.run1 (pure_len_nil Ty.sl22 rfl) rfl ?_
          refine TL.run1 (pure_eql rfl rfl) rfl ?_
          refine TL.run1 (pure_move rfl) rfl ?_
          first | refine TL.splitP 56 rfl (fun hg56 => ?_) (fun hg56 => ?_) | refine TL.split 56 rfl (fun hg56 => ?_) (fun hg56 => ?_)
          · try dsimp only at hg56
            refine TL.runG rfl rfl (pure_move rfl) rfl ?_
            refine TL.runG rfl rfl (pure_move rfl) rfl ?_
            refine TL.runG rfl rfl (pure_eql rfl rfl) rfl ?_
            refine TL.run1 (pure_pick_true rfl rfl) rfl ?_
            refine TL.run1 (pure_assign rfl) rfl ?_
            refine TL.cutEnd (by repeat (first | exact Same.refl _ _ | refine Same.put rfl ?_)) rfl ?_
            simp_all [encRs]
          · try dsimp only at hg56
            refine TL.passG rfl rfl rfl rfl ?_
            refine TL.passG rfl rfl rfl rfl ?_
            refine TL.passG rfl rfl rfl rfl ?_
            refine TL.run1 (pure_pick_false rfl rfl) rfl ?_
            refine TL.run1 (pure_assign rfl) rfl ?_
            refine TL.cutEnd (by repeat (first | exact Same.refl _ _ | refine Same.put rfl ?_)) rfl ?_
            simp_all [encRs]
        refine TC.ret ?_
        refine then_ret ?_
        exact ret_bool rfl (by simp)
      · try dsimp only at hc52
        exact absurd (by decide) hc52
    · try dsimp only at hc29
      have hin : InsideA rs a := by simpa using hc29
      refine TC.drawCut [35, 36, 37, 38, 39, 40, 41, 42, 43, 44, 45, 34] 34 (covN rs a ≠ a ∨ fullB rs a = false) Ty.follows (by kernel_rfl) ?_ ?_
      · skip
        refine TD.run1 (pure_move rfl) rfl ?_
        first | refine TD.run1 (pure_load Ty.agg38 rfl (.succ (.succ (.succ (.succ (.zero _)))))) rfl ?_ | refine TD.run1 (pure_load_own Ty.agg38 rfl (by repeat (first | exact List.Mem.head _ | apply List.Mem.tail)) (by repeat (first | exact DropR.zero _ | apply DropR.succ)) (.succ (.succ (.succ (.succ (.zero _)))))) rfl ?_
        refine TD.run1 (pure_call (lcover_spec rs hr a hin) (.cons rfl (.cons rfl .nil)) Try.call22) rfl ?_
        first | refine TD.run1 (pure_load Ty.agg38 rfl (.succ (.succ (.succ (.succ (.zero _)))))) rfl ?_ | refine TD.run1 (pure_load_own Ty.agg38 rfl (by repeat (first | exact List.Mem.head _ | apply List.Mem.tail)) (by repeat (first | exact DropR.zero _ | apply DropR.succ)) (.succ (.succ (.succ (.succ (.zero _)))))) rfl ?_
        refine TD.run1 (pure_neq_agg Ty.eq38 rfl rfl (.cons (.cons (.cons (.cons .nil)))) (.cons (.cons (.cons (.cons .nil)))) rfl rfl) rfl ?_
        refine TD.run1 (pure_move rfl) rfl ?_
        first | refine TD.splitP 40 rfl (fun hg40 => ?_) (fun hg40 => ?_) | refine TD.split 40 rfl (fun hg40 => ?_) (fun hg40 => ?_)
        · try dsimp only at hg40
          refine TD.passG rfl rfl rfl rfl ?_
          refine TD.passG rfl rfl rfl rfl ?_
          refine TD.passG rfl rfl rfl rfl ?_
          refine TD.passG rfl rfl rfl rfl ?_
          refine TD.run1 (pure_pick_true rfl rfl) rfl ?_
          refine TD.run1 (pure_assign rfl) rfl ?_
          refine TD.cutEnd (by repeat (first | exact Same.refl _ _ | refine Same.put rfl ?_)) rfl ?_
          generalize fullB rs a = fb
          cases hx : covN rs a; cases a; cases fb
          all_goals first | (simp_all; done) | (simp_all; grind) | (simp only [ne_eq, A4.mk.injEq] at *; grind)
        · try dsimp only at hg40
          refine TD.runG rfl rfl (pure_move rfl) rfl ?_
          first | refine TD.runG rfl rfl (pure_load Ty.agg38 rfl (.succ (.succ (.succ (.succ (.zero _)))))) rfl ?_ | refine TD.runG rfl rfl (pure_load_own Ty.agg38 rfl (by repeat (first | exact List.Mem.head _ | apply List.Mem.tail)) (by repeat (first | exact DropR.zero _ | apply DropR.succ)) (.succ (.succ (.succ (.succ (.zero _)))))) rfl ?_
          refine TD.runG rfl rfl (pure_call (full_spec rs hr a hin) (.cons rfl (.cons rfl .nil)) Try.call33) rfl ?_
          refine TD.runG rfl rfl (pure_not rfl) rfl ?_
          refine TD.run1 (pure_pick_false rfl rfl) rfl ?_
          refine TD.run1 (pure_assign rfl) rfl ?_
          refine TD.cutEnd (by repeat (first | exact Same.refl _ _ | refine Same.put rfl ?_)) rfl ?_
          generalize fullB rs a = fb
          cases hx : covN rs a; cases a; cases fb
          all_goals first | (simp_all; done) | (simp_all; grind) | (simp only [ne_eq, A4.mk.injEq] at *; grind)
      first | refine TC.condD rfl (fun hc34 => ?_) (fun hc34 => ?_) | refine TC.condN rfl (fun hc34 => ?_) (fun hc34 => ?_) | refine TC.cond rfl (fun hc34 => ?_) (fun hc34 => ?_)
      · try dsimp only at hc34
        refine TC.region ?_
        refine TL.run1 (pure_assign rfl) rfl ?_
        refine TL.nil ?_
        refine block_normal ?_
        refine then_normal ?_
        refine TC.seq ?_
        refine TC.seq ?_
        have hE : mrgE rs a = 20 := by (rcases hc34 with h | h; exact mrgE_2 hin h; exact mrgE_3 hin (fun hf => by rw [fullB_iff.2 hf] at h; cases h))
        rw [mrgV_bad (by rw [hE]; decide), hE]
        refine TC.region ?_
        refine TL.run1 (pure_move rfl) rfl ?_
        refine TL.run1 (pure_neq rfl rfl) rfl ?_
        refine TL.nil' ?_
        first | refine TC.condD rfl (fun hc52 => ?_) (fun hc52 => ?_) | refine TC.condN rfl (fun hc52 => ?_) (fun hc52 => ?_) | refine TC.cond rfl (fun hc52 => ?_) (fun hc52 => ?_)
        · try dsimp only at hc52
          refine TC.regionCut [53, 54, 55, 56, 57, 58, 59, 60, 4] 4 (True) ?_ ?_
          · skip
            refine TL.run1 (pure_move rfl) rfl ?_
            first | refine TL.run1 (pure_len Ty.sl22 rfl) rfl ?_ | refine TL.run1 (pure_len_row Ty.sl22 rfl (by repeat (first | exact List.Mem.head _ | apply List.Mem.tail))) rfl ?_ | refine TL.run1 (pure_len_nil Ty.sl22 rfl) rfl ?_
            refine TL.run1 (pure_eql rfl rfl) rfl ?_
            refine TL.run1 (pure_move rfl) rfl ?_
            first | refine TL.splitP 56 rfl (fun hg56 => ?_) (fun hg56 => ?_) | refine TL.split 56 rfl (fun hg56 => ?_) (fun hg56 => ?_)
            · try dsimp only at hg56
              refine TL.runG rfl rfl (pure_move rfl) rfl ?_
              refine TL.runG rfl rfl (pure_move rfl) rfl ?_
              refine TL.runG rfl rfl (pure_eql rfl rfl) rfl ?_
              refine TL.run1 (pure_pick_true rfl rfl) rfl ?_
              refine TL.run1 (pure_assign rfl) rfl ?_
              refine TL.cutEnd (by repeat (first | exact Same.refl _ _ | refine Same.put rfl ?_)) rfl ?_
              simp_all [encRs]
            · try dsimp only at hg56
              refine TL.passG rfl rfl rfl rfl ?_
              refine TL.passG rfl rfl rfl rfl ?_
              refine TL.passG rfl rfl rfl rfl ?_
              refine TL.run1 (pure_pick_false rfl rfl) rfl ?_
              refine TL.run1 (pure_assign rfl) rfl ?_
              refine TL.cutEnd (by repeat (first | exact Same.refl _ _ | refine Same.put rfl ?_)) rfl ?_
              simp_all [encRs]
          refine TC.ret ?_
          refine then_ret ?_
          exact ret_bool rfl (by simp)
        · try dsimp only at hc52
          exact absurd (by decide) hc52
      · try dsimp only at hc34
        have hcv : covN rs a = a := Classical.not_not.1 (fun h => hc34 (.inl h))
        have hful : FullA rs a := Classical.not_not.1 (fun h => hc34 (.inr (by rw [Bool.eq_false_iff]; exact fun hb => h (fullB_iff.1 hb))))
        refine TC.seq ?_
        refine TC.region ?_
        refine TL.run1 (pure_move rfl) rfl ?_
        first | refine TL.run1 (pure_load Ty.agg38 rfl (.succ (.succ (.succ (.succ (.zero _)))))) rfl ?_ | refine TL.run1 (pure_load_own Ty.agg38 rfl (by repeat (first | exact List.Mem.head _ | apply List.Mem.tail)) (by repeat (first | exact DropR.zero _ | apply DropR.succ)) (.succ (.succ (.succ (.succ (.zero _)))))) rfl ?_
        refine TL.run1 (pure_call (empty_spec rs hr a hin) (.cons rfl (.cons rfl .nil)) Try.call34) rfl ?_
        refine TL.run1 (pure_not rfl) rfl ?_
        refine TL.run1 (pure_assign rfl) rfl ?_
        refine TL.nil' ?_
        first | refine TC.condD rfl (fun hc46 => ?_) (fun hc46 => ?_) | refine TC.condN rfl (fun hc46 => ?_) (fun hc46 => ?_) | refine TC.cond rfl (fun hc46 => ?_) (fun hc46 => ?_)
        · try dsimp only at hc46
          refine TC.region ?_
          refine TL.run1 (pure_assign rfl) rfl ?_
          refine TL.nil ?_
          refine block_normal ?_
          refine then_normal ?_
          refine TC.seq ?_
          refine TC.seq ?_
          have hE := mrgE_4 hin hcv hful (fillB_iff.1 (by simpa using hc46))
          rw [mrgV_bad (by rw [hE]; decide), hE]
          refine TC.region ?_
          refine TL.run1 (pure_move rfl) rfl ?_
          refine TL.run1 (pure_neq rfl rfl) rfl ?_
          refine TL.nil' ?_
          first | refine TC.condD rfl (fun hc52 => ?_) (fun hc52 => ?_) | refine TC.condN rfl (fun hc52 => ?_) (fun hc52 => ?_) | refine TC.cond rfl (fun hc52 => ?_) (fun hc52 => ?_)
          · try dsimp only at hc52
            refine TC.regionCut [53, 54, 55, 56, 57, 58, 59, 60, 4] 4 (True) ?_ ?_
            · skip
              refine TL.run1 (pure_move rfl) rfl ?_
              first | refine TL.run1 (pure_len Ty.sl22 rfl) rfl ?_ | refine TL.run1 (pure_len_row Ty.sl22 rfl (by repeat (first | exact List.Mem.head _ | apply List.Mem.tail))) rfl ?_ | refine TL.run1 (pure_len_nil Ty.sl22 rfl) rfl ?_
              refine TL.run1 (pure_eql rfl rfl) rfl ?_
              refine TL.run1 (pure_move rfl) rfl ?_
              first | refine TL.splitP 56 rfl (fun hg56 => ?_) (fun hg56 => ?_) | refine TL.split 56 rfl (fun hg56 => ?_) (fun hg56 => ?_)
              · try dsimp only at hg56
                refine TL.runG rfl rfl (pure_move rfl) rfl ?_
                refine TL.runG rfl rfl (pure_move rfl) rfl ?_
                refine TL.runG rfl rfl (pure_eql rfl rfl) rfl ?_
                refine TL.run1 (pure_pick_true rfl rfl) rfl ?_
                refine TL.run1 (pure_assign rfl) rfl ?_
                refine TL.cutEnd (by repeat (first | exact Same.refl _ _ | refine Same.put rfl ?_)) rfl ?_
                simp_all [encRs]
              · try dsimp only at hg56
                refine TL.passG rfl rfl rfl rfl ?_
                refine TL.passG rfl rfl rfl rfl ?_
                refine TL.passG rfl rfl rfl rfl ?_
                refine TL.run1 (pure_pick_false rfl rfl) rfl ?_
                refine TL.run1 (pure_assign rfl) rfl ?_
                refine TL.cutEnd (by repeat (first | exact Same.refl _ _ | refine Same.put rfl ?_)) rfl ?_
                simp_all [encRs]
            refine TC.ret ?_
            refine then_ret ?_
            exact ret_bool rfl (by simp)
          · try dsimp only at hc52
            exact absurd (by decide) hc52
        · try dsimp only at hc46
          refine TC.skip ?_
          refine block_normal ?_
          refine then_normal ?_
          refine TC.seq ?_
          refine TC.seq ?_
          have hE := mrgE_5 hin hcv hful (fun h => by rw [fillB_iff.2 h] at hc46; cases hc46)
          rw [mrgV_ok hE, hE]
          have hM := MrgOk.of hin hcv hful
          have hOm := mrgT_ok a hr hP
          have hTm := mrgT_T a hT hP
          have hml : (mrgT rs a).length ≤ 2000 := by (rw [mrgT_len]; exact hl)
          obtain ⟨p, hp1, hp2, hpw⟩ := hM.walk
          refine TC.region ?_
          refine TL.run1 (pure_move rfl) rfl ?_
          refine TL.run1 (pure_neq rfl rfl) rfl ?_
          refine TL.nil' ?_
          first | refine TC.condD rfl (fun hc52 => ?_) (fun hc52 => ?_) | refine TC.condN rfl (fun hc52 => ?_) (fun hc52 => ?_) | refine TC.cond rfl (fun hc52 => ?_) (fun hc52 => ?_)
          · try dsimp only at hc52
            exact absurd rfl hc52
          · try dsimp only at hc52
            refine TC.skip' ?_
            refine TC.seq ?_
            refine TC.regionCut [61, 62, 63, 64, 65, 66, 67, 68, 69, 70, 71, 72, 73, 74, 75, 76, 77] 77 (False) ?_ ?_
            · skip
              refine TL.run1 (pure_move rfl) rfl ?_
              refine TL.run1 (pure_neq rfl rfl) rfl ?_
              refine TL.run1 (pure_move rfl) rfl ?_
              first | refine TL.splitP 63 rfl (fun hg63 => ?_) (fun hg63 => ?_) | refine TL.split 63 rfl (fun hg63 => ?_) (fun hg63 => ?_)
              · try dsimp only at hg63
                refine TL.passG rfl rfl rfl rfl ?_
                refine TL.passG rfl rfl rfl rfl ?_
                refine TL.passG rfl rfl rfl rfl ?_
                refine TL.passG rfl rfl rfl rfl ?_
                refine TL.passG rfl rfl rfl rfl ?_
                refine TL.passG rfl rfl rfl rfl ?_
                refine TL.passG rfl rfl rfl rfl ?_
                refine TL.passG rfl rfl rfl rfl ?_
                refine TL.passG rfl rfl rfl rfl ?_
                refine TL.passG rfl rfl rfl rfl ?_
                refine TL.passG rfl rfl rfl rfl ?_
                refine TL.passG rfl rfl rfl rfl ?_
                refine TL.passG rfl rfl rfl rfl ?_
                refine TL.run1 (pure_pick_true rfl rfl) rfl ?_
                refine TL.cutEnd (by repeat (first | exact Same.refl _ _ | refine Same.put rfl ?_)) rfl ?_
                first | (simp_all; done) | grind
              · try dsimp only at hg63
                refine TL.runG rfl rfl (pure_move rfl) rfl ?_
                refine TL.runG rfl rfl (pure_move rfl) rfl ?_
                first | refine TL.runG rfl rfl (pure_fieldAddr Ty.f38_0 rfl (.zero _) (List.cons_ne_nil _ _)) rfl ?_ | refine TL.runG rfl rfl (pure_fieldAddr_own Ty.f38_0 rfl) rfl ?_
                first | refine TL.runG rfl rfl (pure_load1 Ty.one3 rfl) rfl ?_ | refine TL.runG rfl rfl (pure_load1_own Ty.one3 rfl (by repeat (first | exact List.Mem.head _ | apply List.Mem.tail)) (by repeat (first | exact DropR.zero _ | apply DropR.succ))) rfl ?_
                first | refine TL.runG rfl rfl (pure_fieldAddr Ty.f38_1 rfl (.succ (.zero _)) (List.cons_ne_nil _ _)) rfl ?_ | refine TL.runG rfl rfl (pure_fieldAddr_own Ty.f38_1 rfl) rfl ?_
                first | refine TL.runG rfl rfl (pure_load1 Ty.one3 rfl) rfl ?_ | refine TL.runG rfl rfl (pure_load1_own Ty.one3 rfl (by repeat (first | exact List.Mem.head _ | apply List.Mem.tail)) (by repeat (first | exact DropR.zero _ | apply DropR.succ))) rfl ?_
                first | refine TL.runG rfl rfl (pure_fieldAddr Ty.f38_2 rfl (.succ (.succ (.zero _))) (List.cons_ne_nil _ _)) rfl ?_ | refine TL.runG rfl rfl (pure_fieldAddr_own Ty.f38_2 rfl) rfl ?_
                first | refine TL.runG rfl rfl (pure_load1 Ty.one3 rfl) rfl ?_ | refine TL.runG rfl rfl (pure_load1_own Ty.one3 rfl (by repeat (first | exact List.Mem.head _ | apply List.Mem.tail)) (by repeat (first | exact DropR.zero _ | apply DropR.succ))) rfl ?_
                first | refine TL.runG rfl rfl (pure_fieldAddr Ty.f38_3 rfl (.succ (.succ (.succ (.zero _)))) (List.cons_ne_nil _ _)) rfl ?_ | refine TL.runG rfl rfl (pure_fieldAddr_own Ty.f38_3 rfl) rfl ?_
                first | refine TL.runG rfl rfl (pure_load1 Ty.one3 rfl) rfl ?_ | refine TL.runG rfl rfl (pure_load1_own Ty.one3 rfl (by repeat (first | exact List.Mem.head _ | apply List.Mem.tail)) (by repeat (first | exact DropR.zero _ | apply DropR.succ))) rfl ?_
                refine TL.runG rfl rfl (pure_call (RMerge_spec rs hr hl hP a hM) (.cons rfl (.cons rfl (.cons rfl (.cons rfl (.cons rfl .nil))))) Try.call35) rfl ?_
                refine TL.runG rfl rfl (pure_call (REqual_spec (mrgT rs a) hTm) (.cons rfl (.cons rfl .nil)) Try.call31) rfl ?_
                refine TL.runG rfl rfl (pure_not rfl) rfl ?_
                refine TL.run1 (pure_pick_false rfl rfl) rfl ?_
                refine TL.cutEnd (by repeat (first | exact Same.refl _ _ | refine Same.put rfl ?_)) rfl ?_
                first | (simp_all; done) | grind
            first | refine TC.condD rfl (fun hc77 => ?_) (fun hc77 => ?_) | refine TC.condN rfl (fun hc77 => ?_) (fun hc77 => ?_) | refine TC.cond rfl (fun hc77 => ?_) (fun hc77 => ?_)
            · try dsimp only at hc77
              all_goals exact absurd hc77 id
            · try dsimp only at hc77
              refine TC.skip' ?_
              refine TC.seq ?_
              refine TC.region ?_
              refine TL.run1 (pure_assign rfl) rfl ?_
              refine TL.nil' ?_
              refine TC.seq ?_
              refine TC.nilrow 38 4 ?_
              refine TC.region ?_
              refine TL.run1 (pure_move rfl) rfl ?_
              first | refine TL.run1 (pure_call (Rects_spec rs hr.1 hl) (.cons rfl .nil) Try.call14) rfl ?_ | refine TL.run1 (pure_call (Rects_spec (mrgT rs a) hOm.1 hml) (.cons rfl .nil) Try.call14) rfl ?_
              refine TL.run1 (pure_assign rfl) rfl ?_
              refine TL.nil' ?_
              refine TC.seq ?_
              refine TC.seq ?_
              refine TC.region ?_
              refine TL.run1 (pure_assign rfl) rfl ?_
              refine TL.nil' ?_
              refine TC.block ?_
              refine TC.loopX (X := Nat × Value) (fun (i, v) => [(0, .sl 6 (encRs rs)), (3, .at_ [.v (.int .i64 a.t), .v (.int .i64 a.l), .v (.int .i64 a.b), .v (.int .i64 a.r)]), (5, .sl 6 (encRs (mrgT rs a))), (8, .v v), (9, .sl 6 (encQs (layRects rs))), (10, .v (.int .i64 i))]) (fun (i, v) => [.row v 38 4 (encAs (outTo rs a i))]) (fun (i, v) => (i ≤ (layRects rs).length)) (fun (i, v) => (layRects rs).length - i) (0, .slice none 0 0) ⟨by skip; repeat (first | exact Agree.nil | refine Agree.cons rfl ?_), by skip; repeat (first | exact List.nil_sublist _ | exact List.Sublist.refl _ | apply List.Sublist.cons_cons | apply List.Sublist.cons)⟩ ?_ ?_
              · skip
                exact Nat.zero_le _
              rintro ⟨i, v⟩
              intro h1
              show TC _ _ _ (Env.of [(0, .sl 6 (encRs rs)), (3, .at_ [.v (.int .i64 a.t), .v (.int .i64 a.l), .v (.int .i64 a.b), .v (.int .i64 a.r)]), (5, .sl 6 (encRs (mrgT rs a))), (8, .v v), (9, .sl 6 (encQs (layRects rs))), (10, .v (.int .i64 i))]) [.row v 38 4 (encAs (outTo rs a i))]
              refine TC.seq ?_
              refine TC.seq ?_
              refine TC.region ?_
              refine TL.run1 (pure_move rfl) rfl ?_
              refine TL.run1 (pure_move rfl) rfl ?_
              first | refine TL.run1 (pure_len Ty.sl25 rfl) rfl ?_ | refine TL.run1 (pure_len_row Ty.sl25 rfl (by repeat (first | exact List.Mem.head _ | apply List.Mem.tail))) rfl ?_ | refine TL.run1 (pure_len_nil Ty.sl25 rfl) rfl ?_
              refine TL.run1 (pure_lss rfl rfl) rfl ?_
              refine TL.nil' ?_
              first | refine TC.condD rfl (fun hc83 => ?_) (fun hc83 => ?_) | refine TC.condN rfl (fun hc83 => ?_) (fun hc83 => ?_) | refine TC.cond rfl (fun hc83 => ?_) (fun hc83 => ?_)
              · try dsimp only at hc83
                refine TC.skip' ?_
                refine TC.seq ?_
                refine TC.block ?_
                refine TC.seq ?_
                have hil : i < (layRects rs).length := by have := encQs_len (layRects rs); omega
                have hq := encQs_get (layRects rs) (i : Int) (by omega) (by omega)
                have hst := outTo_step rs a i hil
                have hol := outTo_len rs a i
                have hoe := encAs_len (outTo rs a i)
                refine TC.region ?_
                refine TL.run1 (pure_move rfl) rfl ?_
                refine TL.run1 (pure_move rfl) rfl ?_
                refine TL.run1 (pure_indexAddr Ty.sl25 rfl rfl (by omega) hq (List.cons_ne_nil _ _)) rfl ?_
                first | refine TL.run1 (pure_fieldAddr Ty.f40_2 rfl (.succ (.succ (.zero _))) (List.cons_ne_nil _ _)) rfl ?_ | refine TL.run1 (pure_fieldAddr_own Ty.f40_2 rfl) rfl ?_
                first | refine TL.run1 (pure_load Ty.agg38 rfl (.succ (.succ (.succ (.succ (.zero _)))))) rfl ?_ | refine TL.run1 (pure_load_own Ty.agg38 rfl (by repeat (first | exact List.Mem.head _ | apply List.Mem.tail)) (by repeat (first | exact DropR.zero _ | apply DropR.succ)) (.succ (.succ (.succ (.succ (.zero _)))))) rfl ?_
                refine TL.alloc Ty.zero38 rfl (fun g11 => ?_)
                refine TL.store rfl rfl (.agg _) Try.sizeOf38 rfl (by repeat (first | exact UpdR.here _ | apply UpdR.there)) (by repeat (first | exact PutR.nil _ | apply PutR.here | apply PutR.skip)) ?_
                refine TL.nil' ?_
                refine TC.freezeBox 11 (List.cons_ne_nil _ _) (.here _) rfl ?_
                refine TC.regionCut [91, 92, 93, 94, 95, 96, 97, 98, 99, 100, 101, 102, 103, 104, 105, 106, 107, 108, 109, 110, 111, 112, 113, 114, 115, 116] 116 ((qAt (layRects rs) (i : Nat)).top < a.t ∨ (qAt (layRects rs) (i : Nat)).top ≥ a.b ∨ (qAt (layRects rs) (i : Nat)).left < a.l ∨ (qAt (layRects rs) (i : Nat)).left ≥ a.r) ?_ ?_
                · skip
                  first | refine TL.run1 (pure_fieldAddr Ty.f38_0 rfl (.zero _) (List.cons_ne_nil _ _)) rfl ?_ | refine TL.run1 (pure_fieldAddr_own Ty.f38_0 rfl) rfl ?_
                  first | refine TL.run1 (pure_load1 Ty.one3 rfl) rfl ?_ | refine TL.run1 (pure_load1_own Ty.one3 rfl (by repeat (first | exact List.Mem.head _ | apply List.Mem.tail)) (by repeat (first | exact DropR.zero _ | apply DropR.succ))) rfl ?_
                  first | refine TL.run1 (pure_fieldAddr Ty.f38_0 rfl (.zero _) (List.cons_ne_nil _ _)) rfl ?_ | refine TL.run1 (pure_fieldAddr_own Ty.f38_0 rfl) rfl ?_
                  first | refine TL.run1 (pure_load1 Ty.one3 rfl) rfl ?_ | refine TL.run1 (pure_load1_own Ty.one3 rfl (by repeat (first | exact List.Mem.head _ | apply List.Mem.tail)) (by repeat (first | exact DropR.zero _ | apply DropR.succ))) rfl ?_
                  refine TL.run1 (pure_lss rfl rfl) rfl ?_
                  refine TL.run1 (pure_move rfl) rfl ?_
                  first | refine TL.splitP 96 rfl (fun hg96 => ?_) (fun hg96 => ?_) | refine TL.split 96 rfl (fun hg96 => ?_) (fun hg96 => ?_)
                  · try dsimp only at hg96
                    refine TL.passG rfl rfl rfl rfl ?_
                    refine TL.passG rfl rfl rfl rfl ?_
                    refine TL.passG rfl rfl rfl rfl ?_
                    refine TL.passG rfl rfl rfl rfl ?_
                    refine TL.passG rfl rfl rfl rfl ?_
                    refine TL.run1 (pure_pick_true rfl rfl) rfl ?_
                    refine TL.run1 (pure_move rfl) rfl ?_
                    refine TL.passG rfl rfl rfl rfl ?_
                    refine TL.passG rfl rfl rfl rfl ?_
                    refine TL.passG rfl rfl rfl rfl ?_
                    refine TL.passG rfl rfl rfl rfl ?_
                    refine TL.passG rfl rfl rfl rfl ?_
                    refine TL.run1 (pure_pick_true rfl rfl) rfl ?_
                    refine TL.run1 (pure_move rfl) rfl ?_
                    refine TL.passG rfl rfl rfl rfl ?_
                    refine TL.passG rfl rfl rfl rfl ?_
                    refine TL.passG rfl rfl rfl rfl ?_
                    refine TL.passG rfl rfl rfl rfl ?_
                    refine TL.passG rfl rfl rfl rfl ?_
                    refine TL.run1 (pure_pick_true rfl rfl) rfl ?_
                    refine TL.cutEnd (by repeat (first | exact Same.refl _ _ | refine Same.put rfl ?_)) rfl ?_
                    first | (simp only [decide_eq_true_eq, Bool.false_eq_true, false_iff, true_iff, iff_true, iff_false, Bool.not_eq_true]; omega) | (simp_all; done) | (simp_all; omega) | grind
                  · try dsimp only at hg96
                    first | refine TL.runG rfl rfl (pure_fieldAddr Ty.f38_0 rfl (.zero _) (List.cons_ne_nil _ _)) rfl ?_ | refine TL.runG rfl rfl (pure_fieldAddr_own Ty.f38_0 rfl) rfl ?_
                    first | refine TL.runG rfl rfl (pure_load1 Ty.one3 rfl) rfl ?_ | refine TL.runG rfl rfl (pure_load1_own Ty.one3 rfl (by repeat (first | exact List.Mem.head _ | apply List.Mem.tail)) (by repeat (first | exact DropR.zero _ | apply DropR.succ))) rfl ?_
                    first | refine TL.runG rfl rfl (pure_fieldAddr Ty.f38_2 rfl (.succ (.succ (.zero _))) (List.cons_ne_nil _ _)) rfl ?_ | refine TL.runG rfl rfl (pure_fieldAddr_own Ty.f38_2 rfl) rfl ?_
                    first | refine TL.runG rfl rfl (pure_load1 Ty.one3 rfl) rfl ?_ | refine TL.runG rfl rfl (pure_load1_own Ty.one3 rfl (by repeat (first | exact List.Mem.head _ | apply List.Mem.tail)) (by repeat (first | exact DropR.zero _ | apply DropR.succ))) rfl ?_
                    refine TL.runG rfl rfl (pure_geq rfl rfl) rfl ?_
                    refine TL.run1 (pure_pick_false rfl rfl) rfl ?_
                    refine TL.run1 (pure_move rfl) rfl ?_
                    first | refine TL.splitP 103 rfl (fun hg103 => ?_) (fun hg103 => ?_) | refine TL.split 103 rfl (fun hg103 => ?_) (fun hg103 => ?_)
                    · try dsimp only at hg103
                      refine TL.passG rfl rfl rfl rfl ?_
                      refine TL.passG rfl rfl rfl rfl ?_
                      refine TL.passG rfl rfl rfl rfl ?_
                      refine TL.passG rfl rfl rfl rfl ?_
                      refine TL.passG rfl rfl rfl rfl ?_
                      refine TL.run1 (pure_pick_true rfl rfl) rfl ?_
                      refine TL.run1 (pure_move rfl) rfl ?_
                      refine TL.passG rfl rfl rfl rfl ?_
                      refine TL.passG rfl rfl rfl rfl ?_
                      refine TL.passG rfl rfl rfl rfl ?_
                      refine TL.passG rfl rfl rfl rfl ?_
                      refine TL.passG rfl rfl rfl rfl ?_
                      refine TL.run1 (pure_pick_true rfl rfl) rfl ?_
                      refine TL.cutEnd (by repeat (first | exact Same.refl _ _ | refine Same.put rfl ?_)) rfl ?_
                      first | (simp only [decide_eq_true_eq, Bool.false_eq_true, false_iff, true_iff, iff_true, iff_false, Bool.not_eq_true]; omega) | (simp_all; done) | (simp_all; omega) | grind
                    · try dsimp only at hg103
                      first | refine TL.runG rfl rfl (pure_fieldAddr Ty.f38_1 rfl (.succ (.zero _)) (List.cons_ne_nil _ _)) rfl ?_ | refine TL.runG rfl rfl (pure_fieldAddr_own Ty.f38_1 rfl) rfl ?_
                      first | refine TL.runG rfl rfl (pure_load1 Ty.one3 rfl) rfl ?_ | refine TL.runG rfl rfl (pure_load1_own Ty.one3 rfl (by repeat (first | exact List.Mem.head _ | apply List.Mem.tail)) (by repeat (first | exact DropR.zero _ | apply DropR.succ))) rfl ?_
                      first | refine TL.runG rfl rfl (pure_fieldAddr Ty.f38_1 rfl (.succ (.zero _)) (List.cons_ne_nil _ _)) rfl ?_ | refine TL.runG rfl rfl (pure_fieldAddr_own Ty.f38_1 rfl) rfl ?_
                      first | refine TL.runG rfl rfl (pure_load1 Ty.one3 rfl) rfl ?_ | refine TL.runG rfl rfl (pure_load1_own Ty.one3 rfl (by repeat (first | exact List.Mem.head _ | apply List.Mem.tail)) (by repeat (first | exact DropR.zero _ | apply DropR.succ))) rfl ?_
                      refine TL.runG rfl rfl (pure_lss rfl rfl) rfl ?_
                      refine TL.run1 (pure_pick_false rfl rfl) rfl ?_
                      refine TL.run1 (pure_move rfl) rfl ?_
                      first | refine TL.splitP 110 rfl (fun hg110 => ?_) (fun hg110 => ?_) | refine TL.split 110 rfl (fun hg110 => ?_) (fun hg110 => ?_)
                      · try dsimp only at hg110
                        refine TL.passG rfl rfl rfl rfl ?_
                        refine TL.passG rfl rfl rfl rfl ?_
                        refine TL.passG rfl rfl rfl rfl ?_
                        refine TL.passG rfl rfl rfl rfl ?_
                        refine TL.passG rfl rfl rfl rfl ?_
                        refine TL.run1 (pure_pick_true rfl rfl) rfl ?_
                        refine TL.cutEnd (by repeat (first | exact Same.refl _ _ | refine Same.put rfl ?_)) rfl ?_
                        first | (simp only [decide_eq_true_eq, Bool.false_eq_true, false_iff, true_iff, iff_true, iff_false, Bool.not_eq_true]; omega) | (simp_all; done) | (simp_all; omega) | grind
                      · try dsimp only at hg110
                        first | refine TL.runG rfl rfl (pure_fieldAddr Ty.f38_1 rfl (.succ (.zero _)) (List.cons_ne_nil _ _)) rfl ?_ | refine TL.runG rfl rfl (pure_fieldAddr_own Ty.f38_1 rfl) rfl ?_
                        first | refine TL.runG rfl rfl (pure_load1 Ty.one3 rfl) rfl ?_ | refine TL.runG rfl rfl (pure_load1_own Ty.one3 rfl (by repeat (first | exact List.Mem.head _ | apply List.Mem.tail)) (by repeat (first | exact DropR.zero _ | apply DropR.succ))) rfl ?_
                        first | refine TL.runG rfl rfl (pure_fieldAddr Ty.f38_3 rfl (.succ (.succ (.succ (.zero _)))) (List.cons_ne_nil _ _)) rfl ?_ | refine TL.runG rfl rfl (pure_fieldAddr_own Ty.f38_3 rfl) rfl ?_
                        first | refine TL.runG rfl rfl (pure_load1 Ty.one3 rfl) rfl ?_ | refine TL.runG rfl rfl (pure_load1_own Ty.one3 rfl (by repeat (first | exact List.Mem.head _ | apply List.Mem.tail)) (by repeat (first | exact DropR.zero _ | apply DropR.succ))) rfl ?_
                        refine TL.runG rfl rfl (pure_geq rfl rfl) rfl ?_
                        refine TL.run1 (pure_pick_false rfl rfl) rfl ?_
                        refine TL.cutEnd (by repeat (first | exact Same.refl _ _ | refine Same.put rfl ?_)) rfl ?_
                        first | (simp only [decide_eq_true_eq, Bool.false_eq_true, false_iff, true_iff, iff_true, iff_false, Bool.not_eq_true]; omega) | (simp_all; done) | (simp_all; omega) | grind
                first | refine TC.condD rfl (fun hc116 => ?_) (fun hc116 => ?_) | refine TC.condN rfl (fun hc116 => ?_) (fun hc116 => ?_) | refine TC.cond rfl (fun hc116 => ?_) (fun hc116 => ?_)
                · try dsimp only at hc116
                  refine TC.region ?_
                  refine TL.run1 (pure_move rfl) rfl ?_
                  first | refine TL.run1 (pure_load Ty.agg38 rfl (.succ (.succ (.succ (.succ (.zero _)))))) rfl ?_ | refine TL.run1 (pure_load_own Ty.agg38 rfl (by repeat (first | exact List.Mem.head _ | apply List.Mem.tail)) (by repeat (first | exact DropR.zero _ | apply DropR.succ)) (.succ (.succ (.succ (.succ (.zero _)))))) rfl ?_
                  refine TL.run1 (pure_buildSlice (xs := [.tmp 118]) Ty.app71 (by decide) rfl rfl (.cons rfl (.agg _) rfl .nil)) rfl ?_
                  refine TL.append Ty.app71 rfl rfl (by intro _; repeat (first | exact UpdR.here _ | apply UpdR.there)) (by simp only [List.length_append, List.length_cons, List.length_nil]; omega) (by simp only [List.length_append, List.length_cons, List.length_nil]; omega) rfl (fun v120 hv120 => ?_)
                  refine TL.run1 (pure_assign rfl) rfl ?_
                  refine TL.nil ?_
                  refine block_normal ?_
                  refine then_normal ?_
                  refine TC.region ?_
                  refine TL.run1 (pure_move rfl) rfl ?_
                  refine TL.run1 (pure_add rfl rfl (mkI64 (by omega) (by omega))) rfl ?_
                  refine TL.run1 (pure_assign rfl) rfl ?_
                  refine TL.nil ?_
                  have hob : outB a (arQ (qAt (layRects rs) (i : Nat))) = true := decide_eq_true hc116
                  rw [if_pos hob] at hst
                  refine loop_next (i + 1, v120) ⟨by ((try dsimp only); rw [show (((i + 1 : Nat)) : Int) = (i : Int) + 1 by omega]; repeat (first | exact Agree.nil | refine Agree.cons rfl ?_)), by (try dsimp only); rw [hst, encAs_snoc]; repeat (first | exact List.nil_sublist _ | exact List.Sublist.refl _ | apply List.Sublist.cons_cons | apply List.Sublist.cons)⟩ (show i + 1 ≤ _ by omega) (by (try dsimp only); omega)
                · try dsimp only at hc116
                  refine TC.skip ?_
                  refine block_normal ?_
                  refine then_normal ?_
                  refine TC.region ?_
                  refine TL.run1 (pure_move rfl) rfl ?_
                  refine TL.run1 (pure_add rfl rfl (mkI64 (by omega) (by omega))) rfl ?_
                  refine TL.run1 (pure_assign rfl) rfl ?_
                  refine TL.nil ?_
                  have hob : outB a (arQ (qAt (layRects rs) (i : Nat))) = false := decide_eq_false hc116
                  rw [hob, if_neg (by decide), List.append_nil] at hst
                  refine loop_next (i + 1, v) ⟨by ((try dsimp only); rw [show (((i + 1 : Nat)) : Int) = (i : Int) + 1 by omega]; repeat (first | exact Agree.nil | refine Agree.cons rfl ?_)), by (try dsimp only); rw [hst]; repeat (first | exact List.nil_sublist _ | exact List.Sublist.refl _ | apply List.Sublist.cons_cons | apply List.Sublist.cons)⟩ (show i + 1 ≤ _ by omega) (by (try dsimp only); omega)
              · try dsimp only at hc83
                refine TC.exit ?_
                refine then_exit ?_
                refine loop_exit ?_
                refine block_here ?_
                refine then_normal ?_
                refine TC.seq ?_
                have hie : i = (layRects rs).length := by have := encQs_len (layRects rs); omega
                subst hie
                refine TC.freeze 8 (show (0 : Nat) < 4 by decide) (.here _) rfl ?_
                have hqm := encQs_len (layRects (mrgT rs a))
                have hqo := encAs_len (outTo rs a (layRects rs).length)
                have hob := outTo_len rs a (layRects rs).length
                refine TC.region ?_
                refine TL.run1 (pure_move rfl) rfl ?_
                first | refine TL.run1 (pure_call (Rects_spec rs hr.1 hl) (.cons rfl .nil) Try.call14) rfl ?_ | refine TL.run1 (pure_call (Rects_spec (mrgT rs a) hOm.1 hml) (.cons rfl .nil) Try.call14) rfl ?_
                refine TL.run1 (pure_assign rfl) rfl ?_
                refine TL.nil' ?_
                refine TC.seq ?_
                refine TC.seq ?_
                refine TC.region ?_
                refine TL.run1 (pure_move rfl) rfl ?_
                first | refine TL.run1 (pure_len Ty.sl25 rfl) rfl ?_ | refine TL.run1 (pure_len_row Ty.sl25 rfl (by repeat (first | exact List.Mem.head _ | apply List.Mem.tail))) rfl ?_ | refine TL.run1 (pure_len_nil Ty.sl25 rfl) rfl ?_
                refine TL.run1 (pure_move rfl) rfl ?_
                first | refine TL.run1 (pure_len Ty.sl71 rfl) rfl ?_ | refine TL.run1 (pure_len_row Ty.sl71 rfl (by repeat (first | exact List.Mem.head _ | apply List.Mem.tail))) rfl ?_ | refine TL.run1 (pure_len_nil Ty.sl71 rfl) rfl ?_
                refine TL.run1 (pure_add rfl rfl (mkI64 (by omega) (by omega))) rfl ?_
                refine TL.run1 (pure_neq rfl rfl) rfl ?_
                refine TL.nil' ?_
                first | refine TC.condD rfl (fun hc128 => ?_) (fun hc128 => ?_) | refine TC.condN rfl (fun hc128 => ?_) (fun hc128 => ?_) | refine TC.cond rfl (fun hc128 => ?_) (fun hc128 => ?_)
                · try dsimp only at hc128
                  exact absurd (by omega) hc128
                · try dsimp only at hc128
                  refine TC.skip' ?_
                  refine TC.seq ?_
                  refine TC.region ?_
                  refine TL.run1 (pure_assign rfl) rfl ?_
                  refine TL.nil' ?_
                  refine TC.seq ?_
                  refine TC.seq ?_
                  refine TC.region ?_
                  refine TL.run1 (pure_assign rfl) rfl ?_
                  refine TL.nil' ?_
                  refine TC.block ?_
                  refine TC.loopX (X := Nat) (fun i => [(3, .at_ [.v (.int .i64 a.t), .v (.int .i64 a.l), .v (.int .i64 a.b), .v (.int .i64 a.r)]), (8, .sl 4 (encAs (outTo rs a (layRects rs).length))), (12, .sl 6 (encQs (layRects (mrgT rs a)))), (13, .v (.int .i64 (((if (i : Nat) ≤ p then (i : Nat) else i - 1) : Nat) : Int))), (14, .v (.int .i64 i))]) (fun i => []) (fun i => (i ≤ (layRects (mrgT rs a)).length)) (fun i => (layRects (mrgT rs a)).length - i) (0) ⟨by (try dsimp only); rw [show (if 0 ≤ p then 0 else 0 - 1) = 0 by simp]; repeat (first | exact Agree.nil | refine Agree.cons rfl ?_), by skip; repeat (first | exact List.nil_sublist _ | exact List.Sublist.refl _ | apply List.Sublist.cons_cons | apply List.Sublist.cons)⟩ ?_ ?_
                  · skip
                    exact Nat.zero_le _
                  intro i
                  intro h1
                  show TC _ _ _ (Env.of [(3, .at_ [.v (.int .i64 a.t), .v (.int .i64 a.l), .v (.int .i64 a.b), .v (.int .i64 a.r)]), (8, .sl 4 (encAs (outTo rs a (layRects rs).length))), (12, .sl 6 (encQs (layRects (mrgT rs a)))), (13, .v (.int .i64 (((if (i : Nat) ≤ p then (i : Nat) else i - 1) : Nat) : Int))), (14, .v (.int .i64 i))]) []
                  refine TC.seq ?_
                  refine TC.seq ?_
                  refine TC.region ?_
                  refine TL.run1 (pure_move rfl) rfl ?_
                  refine TL.run1 (pure_move rfl) rfl ?_
                  first | refine TL.run1 (pure_len Ty.sl25 rfl) rfl ?_ | refine TL.run1 (pure_len_row Ty.sl25 rfl (by repeat (first | exact List.Mem.head _ | apply List.Mem.tail))) rfl ?_ | refine TL.run1 (pure_len_nil Ty.sl25 rfl) rfl ?_
                  refine TL.run1 (pure_lss rfl rfl) rfl ?_
                  refine TL.nil' ?_
                  first | refine TC.condD rfl (fun hc132 => ?_) (fun hc132 => ?_) | refine TC.condN rfl (fun hc132 => ?_) (fun hc132 => ?_) | refine TC.cond rfl (fun hc132 => ?_) (fun hc132 => ?_)
                  · try dsimp only at hc132
                    refine TC.skip' ?_
                    refine TC.seq ?_
                    refine TC.block ?_
                    refine TC.seq ?_
                    have hil : i < (layRects (mrgT rs a)).length := by omega
                    have hq := encQs_get (layRects (mrgT rs a)) (i : Int) (by omega) (by omega)
                    obtain ⟨hw1, hw2⟩ := hpw i hil
                    refine TC.drawCut [135, 136, 137, 138, 139, 140, 141] 141 ((qAt (layRects (mrgT rs a)) (i : Nat)).top = a.t ∧ (qAt (layRects (mrgT rs a)) (i : Nat)).left = a.l ∧ (qAt (layRects (mrgT rs a)) (i : Nat)).bottom = a.b ∧ (qAt (layRects (mrgT rs a)) (i : Nat)).right = a.r) Ty.follows (by kernel_rfl) ?_ ?_
                    · skip
                      refine TD.run1 (pure_move rfl) rfl ?_
                      refine TD.run1 (pure_move rfl) rfl ?_
                      refine TD.run1 (pure_indexAddr Ty.sl25 rfl rfl (by omega) hq (List.cons_ne_nil _ _)) rfl ?_
                      first | refine TD.run1 (pure_fieldAddr Ty.f40_2 rfl (.succ (.succ (.zero _))) (List.cons_ne_nil _ _)) rfl ?_ | refine TD.run1 (pure_fieldAddr_own Ty.f40_2 rfl) rfl ?_
                      first | refine TD.run1 (pure_load Ty.agg38 rfl (.succ (.succ (.succ (.succ (.zero _)))))) rfl ?_ | refine TD.run1 (pure_load_own Ty.agg38 rfl (by repeat (first | exact List.Mem.head _ | apply List.Mem.tail)) (by repeat (first | exact DropR.zero _ | apply DropR.succ)) (.succ (.succ (.succ (.succ (.zero _)))))) rfl ?_
                      first | refine TD.run1 (pure_load Ty.agg38 rfl (.succ (.succ (.succ (.succ (.zero _)))))) rfl ?_ | refine TD.run1 (pure_load_own Ty.agg38 rfl (by repeat (first | exact List.Mem.head _ | apply List.Mem.tail)) (by repeat (first | exact DropR.zero _ | apply DropR.succ)) (.succ (.succ (.succ (.succ (.zero _)))))) rfl ?_
                      refine TD.run1 (pure_eql_agg Ty.eq38 rfl rfl (.cons (.cons (.cons (.cons .nil)))) (.cons (.cons (.cons (.cons .nil)))) rfl rfl) rfl ?_
                      refine TD.cutEnd (by repeat (first | exact Same.refl _ _ | refine Same.put rfl ?_)) rfl ?_
                      first | (simp only [decide_eq_true_eq, Bool.false_eq_true, false_iff, true_iff, iff_true, iff_false, Bool.not_eq_true]; omega) | (simp_all; done) | (simp_all; omega) | grind
                    first | refine TC.condD rfl (fun hc141 => ?_) (fun hc141 => ?_) | refine TC.condN rfl (fun hc141 => ?_) (fun hc141 => ?_) | refine TC.cond rfl (fun hc141 => ?_) (fun hc141 => ?_)
                    · try dsimp only at hc141
                      refine TC.exit ?_
                      refine then_exit ?_
                      refine block_here ?_
                      refine then_normal ?_
                      refine TC.region ?_
                      refine TL.run1 (pure_move rfl) rfl ?_
                      refine TL.run1 (pure_add rfl rfl (mkI64 (by omega) (by omega))) rfl ?_
                      refine TL.run1 (pure_assign rfl) rfl ?_
                      refine TL.nil ?_
                      have hip : i = p := hw1.2 ((A4.ext_iff).2 ⟨hc141.1, hc141.2.1, hc141.2.2.1, hc141.2.2.2⟩)
                      have hn2 : (if i + 1 ≤ p then i + 1 else i + 1 - 1) = (if i ≤ p then i else i - 1) := by (rw [if_neg (by omega), if_pos (by omega)]; omega)
                      refine loop_next (i + 1) ⟨by ((try dsimp only); rw [hn2, show (((i + 1 : Nat)) : Int) = (i : Int) + 1 by omega]; repeat (first | exact Agree.nil | refine Agree.cons rfl ?_)), by repeat (first | exact List.nil_sublist _ | exact List.Sublist.refl _ | apply List.Sublist.cons_cons | apply List.Sublist.cons)⟩ (show i + 1 ≤ _ by omega) (by (try dsimp only); omega)
                    · try dsimp only at hc141
                      refine TC.skip' ?_
                      refine TC.seq ?_
                      have hnp : i ≠ p := fun h => hc141 (by have e := hw1.1 h; have e1 := congrArg A4.t e; have e2 := congrArg A4.l e; have e3 := congrArg A4.b e; have e4 := congrArg A4.r e; exact ⟨e1, e2, e3, e4⟩)
                      have hw3 := hw2 hnp
                      have hnl : (if (i : Nat) ≤ p then (i : Nat) else i - 1) < (outTo rs a (layRects rs).length).length := (List.getElem?_eq_some_iff.1 hw3).1
                      have ho : (encAs (outTo rs a (layRects rs).length))[(((if (i : Nat) ≤ p then (i : Nat) else i - 1) : Nat) : Int).toNat]? = some [.v (.int .i64 (qAt (layRects (mrgT rs a)) (i : Nat)).top), .v (.int .i64 (qAt (layRects (mrgT rs a)) (i : Nat)).left), .v (.int .i64 (qAt (layRects (mrgT rs a)) (i : Nat)).bottom), .v (.int .i64 (qAt (layRects (mrgT rs a)) (i : Nat)).right)] := by (rw [Int.toNat_natCast]; unfold encAs; rw [List.getElem?_map, hw3]; rfl)
                      refine TC.drawCut [142, 143, 144, 145, 146, 147, 148, 149, 150, 151, 152, 153, 154, 155, 156, 157] 157 (False) Ty.follows (by kernel_rfl) ?_ ?_
                      · skip
                        refine TD.run1 (pure_move rfl) rfl ?_
                        refine TD.run1 (pure_move rfl) rfl ?_
                        first | refine TD.run1 (pure_len Ty.sl71 rfl) rfl ?_ | refine TD.run1 (pure_len_row Ty.sl71 rfl (by repeat (first | exact List.Mem.head _ | apply List.Mem.tail))) rfl ?_ | refine TD.run1 (pure_len_nil Ty.sl71 rfl) rfl ?_
                        refine TD.run1 (pure_geq rfl rfl) rfl ?_
                        refine TD.run1 (pure_move rfl) rfl ?_
                        first | refine TD.splitP 146 rfl (fun hg146 => ?_) (fun hg146 => ?_) | refine TD.split 146 rfl (fun hg146 => ?_) (fun hg146 => ?_)
                        · try dsimp only at hg146
                          refine TD.passG rfl rfl rfl rfl ?_
                          refine TD.passG rfl rfl rfl rfl ?_
                          refine TD.passG rfl rfl rfl rfl ?_
                          refine TD.passG rfl rfl rfl rfl ?_
                          refine TD.passG rfl rfl rfl rfl ?_
                          refine TD.passG rfl rfl rfl rfl ?_
                          refine TD.passG rfl rfl rfl rfl ?_
                          refine TD.passG rfl rfl rfl rfl ?_
                          refine TD.passG rfl rfl rfl rfl ?_
                          refine TD.passG rfl rfl rfl rfl ?_
                          refine TD.run1 (pure_pick_true rfl rfl) rfl ?_
                          refine TD.cutEnd (by repeat (first | exact Same.refl _ _ | refine Same.put rfl ?_)) rfl ?_
                          first | (simp_all; done) | (simp_all; omega) | grind
                        · try dsimp only at hg146
                          refine TD.runG rfl rfl (pure_move rfl) rfl ?_
                          refine TD.runG rfl rfl (pure_move rfl) rfl ?_
                          refine TD.runG rfl rfl (pure_indexAddr Ty.sl25 rfl rfl (by omega) hq (List.cons_ne_nil _ _)) rfl ?_
                          first | refine TD.runG rfl rfl (pure_fieldAddr Ty.f40_2 rfl (.succ (.succ (.zero _))) (List.cons_ne_nil _ _)) rfl ?_ | refine TD.runG rfl rfl (pure_fieldAddr_own Ty.f40_2 rfl) rfl ?_
                          first | refine TD.runG rfl rfl (pure_load Ty.agg38 rfl (.succ (.succ (.succ (.succ (.zero _)))))) rfl ?_ | refine TD.runG rfl rfl (pure_load_own Ty.agg38 rfl (by repeat (first | exact List.Mem.head _ | apply List.Mem.tail)) (by repeat (first | exact DropR.zero _ | apply DropR.succ)) (.succ (.succ (.succ (.succ (.zero _)))))) rfl ?_
                          refine TD.runG rfl rfl (pure_move rfl) rfl ?_
                          refine TD.runG rfl rfl (pure_move rfl) rfl ?_
                          refine TD.runG rfl rfl (pure_indexAddr Ty.sl71 rfl rfl (by omega) ho (List.cons_ne_nil _ _)) rfl ?_
                          first | refine TD.runG rfl rfl (pure_load Ty.agg38 rfl (.succ (.succ (.succ (.succ (.zero _)))))) rfl ?_ | refine TD.runG rfl rfl (pure_load_own Ty.agg38 rfl (by repeat (first | exact List.Mem.head _ | apply List.Mem.tail)) (by repeat (first | exact DropR.zero _ | apply DropR.succ)) (.succ (.succ (.succ (.succ (.zero _)))))) rfl ?_
                          refine TD.runG rfl rfl (pure_neq_agg Ty.eq38 rfl rfl (.cons (.cons (.cons (.cons .nil)))) (.cons (.cons (.cons (.cons .nil)))) rfl rfl) rfl ?_
                          refine TD.run1 (pure_pick_false rfl rfl) rfl ?_
                          refine TD.cutEnd (by repeat (first | exact Same.refl _ _ | refine Same.put rfl ?_)) rfl ?_
                          first | (simp_all; done) | (simp_all; omega) | grind
                      first | refine TC.condD rfl (fun hc157 => ?_) (fun hc157 => ?_) | refine TC.condN rfl (fun hc157 => ?_) (fun hc157 => ?_) | refine TC.cond rfl (fun hc157 => ?_) (fun hc157 => ?_)
                      · try dsimp only at hc157
                        all_goals exact absurd hc157 id
                      · try dsimp only at hc157
                        refine TC.skip' ?_
                        refine TC.region ?_
                        refine TL.run1 (pure_move rfl) rfl ?_
                        refine TL.run1 (pure_add rfl rfl (mkI64 (by omega) (by omega))) rfl ?_
                        refine TL.run1 (pure_assign rfl) rfl ?_
                        refine TL.nil ?_
                        refine block_normal ?_
                        refine then_normal ?_
                        refine TC.region ?_
                        refine TL.run1 (pure_move rfl) rfl ?_
                        refine TL.run1 (pure_add rfl rfl (mkI64 (by omega) (by omega))) rfl ?_
                        refine TL.run1 (pure_assign rfl) rfl ?_
                        refine TL.nil ?_
                        have hn2 : (((if i + 1 ≤ p then i + 1 else i + 1 - 1) : Nat) : Int) = (((if i ≤ p then i else i - 1) : Nat) : Int) + 1 := by (split <;> split <;> omega)
                        refine loop_next (i + 1) ⟨by ((try dsimp only); rw [hn2, show (((i + 1 : Nat)) : Int) = (i : Int) + 1 by omega]; repeat (first | exact Agree.nil | refine Agree.cons rfl ?_)), by repeat (first | exact List.nil_sublist _ | exact List.Sublist.refl _ | apply List.Sublist.cons_cons | apply List.Sublist.cons)⟩ (show i + 1 ≤ _ by omega) (by (try dsimp only); omega)
                  · try dsimp only at hc132
                    refine TC.exit ?_
                    refine then_exit ?_
                    refine loop_exit ?_
                    refine block_here ?_
                    refine then_normal ?_
                    refine TC.seq ?_
                    refine TC.region ?_
                    refine TL.run1 (pure_move rfl) rfl ?_
                    refine TL.run1 (pure_move rfl) rfl ?_
                    first | refine TL.run1 (pure_len Ty.sl71 rfl) rfl ?_ | refine TL.run1 (pure_len_row Ty.sl71 rfl (by repeat (first | exact List.Mem.head _ | apply List.Mem.tail))) rfl ?_ | refine TL.run1 (pure_len_nil Ty.sl71 rfl) rfl ?_
                    refine TL.run1 (pure_eql rfl rfl) rfl ?_
                    refine TL.run1 (pure_assign rfl) rfl ?_
                    refine TL.nil' ?_
                    refine TC.ret ?_
                    have hni : ¬ i ≤ p := by omega
                    rw [if_neg hni]
                    exact ret_bool rfl (decide_eq_true (by omega))
end Go.Ob
