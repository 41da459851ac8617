import Derived.Test.YtcfnfioefbkamaaDoorS12
set_option linter.unusedVariables false
set_option linter.unusedSimpArgs false
namespace Go.Ob
open Go.Proofs
set_option maxRecDepth 100000 in
theorem SAt_spec (s : ByteArray) (u : Int) (hs : s.size ≤ 400000000) : Fun Tryd.prog 29 [.v (.string s), .v (.int .i64 u)] (.tup [.agg [.v (.int .i64 (tqX s u).1), .v (.int .i64 (tqX s u).2.1), .v (.int .i64 (tqX s u).2.2)], .v (.int .i64 (tqE s u))]) := by
  refine Fun.enter (n := 38) (rs := [.cell 4 32, .tmp 5]) Tryd.func29 rfl Tryd.ntmps29 Tryd.results29 rfl (fun w F => ?_); refine TC.seq ?_; refine TC.region ?_; refine TL.alloc Ty.zero32 rfl (fun g4 => ?_); refine TL.run1 (pure_assign rfl) rfl ?_; refine TL.nil' ?_; refine TC.seq ?_; refine TC.region ?_; refine TL.run1 (pure_move rfl) rfl ?_; refine TL.run1 (pure_call (Tokens_spec s (by omega)) (.cons rfl .nil) Tryd.call13) rfl ?_; refine TL.run1 (pure_move rfl) rfl ?_; (iterate 2 refine TL.run1 (pure_extract rfl rfl) rfl ?_); (iterate 2 refine TL.run1 (pure_assign rfl) rfl ?_); refine TL.nil' ?_; (iterate 2 refine TC.seq ?_); refine TC.region ?_; refine TL.run1 (pure_move rfl) rfl ?_; refine TL.run1 (pure_neq rfl rfl) rfl ?_; refine TL.nil' ?_; refine TC.condD rfl (fun hc16 => ?_) (fun hc16 => ?_)
  · try dsimp only at hc16
    have hok : okS s = false := errU_bad0 hc16
    have hE := errU_not hok
    obtain ⟨e1, e2⟩ := tq_bad hok u
    rw [e1, e2]
    rw [hE]
    refine TC.seq ?_; refine TC.region ?_; refine TL.run1 (pure_build Ty.pl32 Ty.zero32 (.nil _)) rfl ?_; refine TL.run1 (pure_move rfl) rfl ?_; refine TL.store rfl rfl (.agg _) Tryd.sizeOf32 rfl (by repeat (first | exact UpdR.here _ | apply UpdR.there)) (by repeat (first | exact PutR.nil _ | apply PutR.here | apply PutR.skip)) ?_; refine TL.run1 (pure_assign rfl) rfl ?_; refine TL.nil' ?_; refine TC.ret ?_; refine then_ret ?_
    exact ret_cell_tmp (.inl rfl) Ty.agg32 rfl (by repeat (first | exact List.Mem.head _ | apply List.Mem.tail)) rfl rfl rfl
  · try dsimp only at hc16
    have hok : okS s = true := errU_ok0 hc16
    have hE : errU s = 0 := by unfold errU; rw [if_pos hok]
    have htv : tokV s = encTk (scL s) (bnds (cls s)) := by unfold tokV; rw [if_pos hok]
    rw [htv]
    have htl := encTk_len (scL s) (bnds (cls s))
    have hntl : nT (scL s) ≤ 1000000001 := by (have h1 := nT_le (scL s); rw [scL_len] at h1; have h2 := cAll_len_le (cls s); rw [cls_len] at h2; have := nR_le s; omega)
    refine TC.skip' ?_; (iterate 2 refine TC.seq ?_); refine TC.region ?_; refine TL.run1 (pure_move rfl) rfl ?_; refine TL.run1 (pure_len Ty.sl23 rfl) rfl ?_; refine TL.run1 (pure_move rfl) rfl ?_; refine TL.nil' ?_; refine TC.block ?_; refine TC.loopX (X := Nat) (fun i => [(1, .v (.int .i64 u)), (4, .v (.pointer (some ⟨g4, 0, none⟩))), (19, .sl 3 (encTk (scL s) (bnds (cls s)))), (20, .v (.int .i64 (encTk (scL s) (bnds (cls s))).length)), (21, .v (.int .i64 i))]) (fun i => [.box g4 32 [.v (.int .i64 0), .v (.int .i64 0), .v (.int .i64 0)]]) (fun i => (i ≤ nT (scL s)) ∧ ((aI (scL s) (bnds (cls s)) u (nT (scL s))) = (aI (scL s) (bnds (cls s)) u (nT (scL s) - i)))) (fun i => nT (scL s) - i) (0) ⟨by skip; repeat (first | exact Agree.nil | refine Agree.cons rfl ?_), by skip; repeat (first | exact List.nil_sublist _ | exact List.Sublist.refl _ | apply List.Sublist.cons_cons | apply List.Sublist.cons)⟩ ?_ ?_
    · skip
      exact ⟨Nat.zero_le _, by rw [Nat.sub_zero]⟩
    intro i
    rintro ⟨h1, h2⟩
    show TC _ _ _ (Env.of [(1, .v (.int .i64 u)), (4, .v (.pointer (some ⟨g4, 0, none⟩))), (19, .sl 3 (encTk (scL s) (bnds (cls s)))), (20, .v (.int .i64 (encTk (scL s) (bnds (cls s))).length)), (21, .v (.int .i64 i))]) [.box g4 32 [.v (.int .i64 0), .v (.int .i64 0), .v (.int .i64 0)]]
    refine TC.seq ?_; refine TC.region ?_; refine TL.run1 (pure_lss rfl rfl) rfl ?_; refine TL.nil' ?_; refine TC.seq ?_; refine TC.condD rfl (fun hc22 => ?_) (fun hc22 => ?_)
    · try dsimp only at hc22
      refine TC.skip' ?_; refine TC.seq ?_; refine TC.block ?_; refine TC.seq ?_
      have hrow := tkr (scL s) (bnds (cls s)) i (by omega)
      refine TC.region ?_; refine TL.run1 (pure_indexAddr Ty.sl23 rfl rfl (by omega) hrow (List.cons_ne_nil _ _)) rfl ?_; refine TL.run1 (pure_load Ty.agg32 rfl (.succ (.succ (.succ (.zero _))))) rfl ?_; refine TL.alloc Ty.zero32 rfl (fun g9 => ?_); refine TL.store rfl rfl (.agg _) Tryd.sizeOf32 rfl (by repeat (first | exact UpdR.here _ | apply UpdR.there)) (by repeat (first | exact PutR.nil _ | apply PutR.here | apply PutR.skip)) ?_; refine TL.nil' ?_; refine TC.regionCut [25, 26, 27, 28, 29, 30, 31, 32, 33, 34] 34 (hitT (scL s) (bnds (cls s)) u i) ?_ ?_
      · skip
        refine TL.run1 (pure_fieldAddr_own Ty.f32_1 rfl) rfl ?_; refine TL.run1 (pure_load1_own Ty.one3 rfl (by repeat (first | exact List.Mem.head _ | apply List.Mem.tail)) (by repeat (first | exact DropR.zero _ | apply DropR.succ))) rfl ?_; refine TL.run1 (pure_move rfl) rfl ?_; refine TL.run1 (pure_leq rfl rfl) rfl ?_; refine TL.run1 (pure_move rfl) rfl ?_; refine TL.splitP 29 rfl (fun hg29 => ?_) (fun hg29 => ?_)
        · try dsimp only at hg29
          refine TL.runG rfl rfl (pure_move rfl) rfl ?_; refine TL.runG rfl rfl (pure_fieldAddr_own Ty.f32_2 rfl) rfl ?_; refine TL.runG rfl rfl (pure_load1_own Ty.one3 rfl (by repeat (first | exact List.Mem.head _ | apply List.Mem.tail)) (by repeat (first | exact DropR.zero _ | apply DropR.succ))) rfl ?_; refine TL.runG rfl rfl (pure_lss rfl rfl) rfl ?_; refine TL.run1 (pure_pick_true rfl rfl) rfl ?_; refine TL.cutEnd (by repeat (first | exact Same.refl _ _ | refine Same.put rfl ?_)) rfl ?_
          first | (simp only [decide_eq_true_eq]; unfold hitT; omega) | (simp; unfold hitT; omega)
        · try dsimp only at hg29
          (iterate 4 refine TL.passG rfl rfl rfl rfl ?_); refine TL.run1 (pure_pick_false rfl rfl) rfl ?_; refine TL.cutEnd (by repeat (first | exact Same.refl _ _ | refine Same.put rfl ?_)) rfl ?_
          first | (simp only [decide_eq_true_eq]; unfold hitT; omega) | (simp; unfold hitT; omega)
      refine TC.condD rfl (fun hc34 => ?_) (fun hc34 => ?_)
      · try dsimp only at hc34
        refine TC.seq ?_; refine TC.region ?_; refine TL.run1 (pure_load_own Ty.agg32 rfl (by repeat (first | exact List.Mem.head _ | apply List.Mem.tail)) (by repeat (first | exact DropR.zero _ | apply DropR.succ)) (.succ (.succ (.succ (.zero _))))) rfl ?_; refine TL.store rfl rfl (.agg _) Tryd.sizeOf32 rfl (by repeat (first | exact UpdR.here _ | apply UpdR.there)) (by repeat (first | exact PutR.nil _ | apply PutR.here | apply PutR.skip)) ?_; refine TL.run1 (pure_assign rfl) rfl ?_; refine TL.nil' ?_; refine TC.ret ?_; refine block_ret ?_; refine then_ret ?_; refine loop_ret ?_; refine block_ret ?_; refine then_ret ?_
        rw [aI_step (by omega), if_pos hc34] at h2
        have e1 : tqX s u = (kT (scL s) i, fT (scL s) (bnds (cls s)) i, fT (scL s) (bnds (cls s)) (i + 1)) ∧ tqE s u = 0 := by (unfold tqX tqE tokZ aS; rw [if_pos hok, if_pos hok, h2, if_pos (by omega), if_pos (by omega)]; exact ⟨rfl, rfl⟩)
        rw [e1.1, e1.2]
        dsimp only
        exact ret_cell_tmp (.inl rfl) Ty.agg32 rfl (by repeat (first | exact List.Mem.head _ | apply List.Mem.tail)) rfl rfl rfl
      · try dsimp only at hc34
        refine TC.skip ?_; refine block_normal ?_; refine then_normal ?_; refine TC.region ?_; refine TL.run1 (pure_add rfl rfl (mkI64 (by omega) (by omega))) rfl ?_; refine TL.run1 (pure_move rfl) rfl ?_; refine TL.nil ?_; refine loop_next (i + 1) ⟨by ((try dsimp only); rw [show (((i + 1 : Nat)) : Int) = (i : Int) + 1 by omega]; repeat (first | exact Agree.nil | refine Agree.cons rfl ?_)), by repeat (first | exact List.nil_sublist _ | exact List.Sublist.refl _ | apply List.Sublist.cons_cons | apply List.Sublist.cons)⟩ ⟨by omega, by rw [h2, aI_step (by omega), if_neg hc34]⟩ (by omega)
    · try dsimp only at hc22
      refine TC.exit ?_; refine then_exit ?_; refine loop_exit ?_; refine block_here ?_; refine then_normal ?_; refine TC.seq ?_; refine TC.region ?_; refine TL.run1 (pure_build Ty.pl32 Ty.zero32 (.nil _)) rfl ?_; refine TL.store rfl rfl (.agg _) Tryd.sizeOf32 rfl (by repeat (first | exact UpdR.here _ | apply UpdR.there)) (by repeat (first | exact PutR.nil _ | apply PutR.here | apply PutR.skip)) ?_; refine TL.run1 (pure_assign rfl) rfl ?_; refine TL.nil' ?_; refine TC.ret ?_
      have hi : i = nT (scL s) := by omega
      rw [hi, Nat.sub_self] at h2
      have e1 : tqX s u = (0, 0, 0) ∧ tqE s u = 2 := by (unfold tqX tqE tokZ aS; rw [if_pos hok, if_pos hok, h2, aI, if_neg (Nat.lt_irrefl _), if_neg (Nat.lt_irrefl _)]; exact ⟨rfl, rfl⟩)
      rw [e1.1, e1.2]
      dsimp only
      exact ret_cell_tmp (.inl rfl) Ty.agg32 rfl (by repeat (first | exact List.Mem.head _ | apply List.Mem.tail)) rfl rfl rfl
set_option maxRecDepth 100000 in
theorem starts_spec (s : ByteArray) (u : Int) (hs : s.size ≤ 400000000) : Fun Tryd.prog 51 [.v (.string s), .v (.int .i64 u)] (.tup [.sl 1 (encI (stV s u)), .v (.int .i64 (stN s u)), .v (.int .i64 (stE s u))]) := by
  refine Fun.enterF (n := 47) (rs := [.tmp 4, .tmp 5, .tmp 6]) Tryd.func51 rfl Tryd.ntmps51 Tryd.results51 rfl (fun w F => ?_); refine TC.seq ?_; refine TC.region ?_; (iterate 3 refine TL.run1 (pure_assign rfl) rfl ?_); refine TL.nil' ?_; refine TC.seq ?_; refine TC.nilrow 3 1 ?_; refine TC.region ?_; refine TL.run1 (pure_move rfl) rfl ?_; refine TL.run1 (pure_call (Tokens_spec s (by omega)) (.cons rfl .nil) Tryd.call13) rfl ?_; refine TL.run1 (pure_move rfl) rfl ?_; (iterate 2 refine TL.run1 (pure_extract rfl rfl) rfl ?_); (iterate 2 refine TL.run1 (pure_assign rfl) rfl ?_); refine TL.nil' ?_; (iterate 2 refine TC.seq ?_); refine TC.region ?_; refine TL.run1 (pure_move rfl) rfl ?_; refine TL.run1 (pure_neq rfl rfl) rfl ?_; refine TL.nil' ?_; refine TC.condD rfl (fun hc16 => ?_) (fun hc16 => ?_)
  · try dsimp only at hc16
    have hok : okS s = false := errU_bad0 hc16
    have hE := errU_not hok
    obtain ⟨e1, e2, e3⟩ := stE_bad hok u
    rw [e1, e2, e3]
    rw [hE]
    refine TC.seq ?_; refine TC.region ?_; refine TL.run1 (pure_move rfl) rfl ?_; (iterate 3 refine TL.run1 (pure_assign rfl) rfl ?_); refine TL.nil' ?_; refine TC.ret ?_; refine then_ret ?_
    exact ret3F (.inl rfl) rfl rfl rfl (.tupL (.cons (.rowS (v := .slice none 0 0) (e := 3) (xs := []) (by repeat (first | exact List.Mem.head _ | apply List.Mem.tail)) (by decide) (by simp)) (.cons (.same _) (.cons (.same _) .nil))))
  · try dsimp only at hc16
    have hok : okS s = true := errU_ok0 hc16
    have hE : errU s = 0 := by unfold errU; rw [if_pos hok]
    have htv : tokV s = encTk (scL s) (bnds (cls s)) := by unfold tokV; rw [if_pos hok]
    rw [htv]
    have htl := encTk_len (scL s) (bnds (cls s))
    have hntl : nT (scL s) ≤ 1000000001 := by (have h1 := nT_le (scL s); rw [scL_len] at h1; have h2 := cAll_len_le (cls s); rw [cls_len] at h2; have := nR_le s; omega)
    have hcv : cntV s = nR s := by unfold cntV; rw [if_pos hok]
    rw [hE]
    refine TC.skip' ?_; refine TC.seq ?_; refine TC.region ?_; refine TL.run1 (pure_move rfl) rfl ?_; refine TL.run1 (pure_call (CCount_spec s (by omega)) (.cons rfl .nil) Tryd.call76) rfl ?_; refine TL.run1 (pure_move rfl) rfl ?_; (iterate 2 refine TL.run1 (pure_extract rfl rfl) rfl ?_); refine TL.run1 (pure_assign rfl) rfl ?_; refine TL.nil' ?_; refine TC.seq ?_
    rw [hcv]
    refine TC.regionCut [23, 24, 25, 26, 27, 28, 29] 29 (¬ (0 ≤ u ∧ u ≤ (nR s : Int))) ?_ ?_
    · skip
      refine TL.run1 (pure_move rfl) rfl ?_; refine TL.run1 (pure_lss rfl rfl) rfl ?_; refine TL.run1 (pure_move rfl) rfl ?_; refine TL.splitP 25 rfl (fun hg25 => ?_) (fun hg25 => ?_)
      · try dsimp only at hg25
        (iterate 3 refine TL.passG rfl rfl rfl rfl ?_); refine TL.run1 (pure_pick_true rfl rfl) rfl ?_; refine TL.cutEnd (by repeat (first | exact Same.refl _ _ | refine Same.put rfl ?_)) rfl ?_
        first | (simp only [decide_eq_true_eq, Bool.false_eq_true, false_iff, true_iff, iff_true, iff_false, Bool.not_eq_true]; omega) | (simp_all; done) | (simp_all; omega) | grind
      · try dsimp only at hg25
        (iterate 2 refine TL.runG rfl rfl (pure_move rfl) rfl ?_); refine TL.runG rfl rfl (pure_gtr rfl rfl) rfl ?_; refine TL.run1 (pure_pick_false rfl rfl) rfl ?_; refine TL.cutEnd (by repeat (first | exact Same.refl _ _ | refine Same.put rfl ?_)) rfl ?_
        first | (simp only [decide_eq_true_eq, Bool.false_eq_true, false_iff, true_iff, iff_true, iff_false, Bool.not_eq_true]; omega) | (simp_all; done) | (simp_all; omega) | grind
    refine TC.condD rfl (fun hc29 => ?_) (fun hc29 => ?_)
    · try dsimp only at hc29
      obtain ⟨e1, e2, e3⟩ := stE_out hok hc29
      rw [e1, e2, e3]
      refine TC.seq ?_; refine TC.region ?_; (iterate 3 refine TL.run1 (pure_assign rfl) rfl ?_); refine TL.nil' ?_; refine TC.ret ?_; refine then_ret ?_
      exact ret3F (.inl rfl) rfl rfl rfl (.tupL (.cons (.rowS (v := .slice none 0 0) (e := 3) (xs := []) (by repeat (first | exact List.Mem.head _ | apply List.Mem.tail)) (by decide) (by simp)) (.cons (.same _) (.cons (.same _) .nil))))
    · try dsimp only at hc29
      obtain ⟨e1, e2, e3⟩ := stE_ok hok (Classical.not_not.1 hc29)
      rw [e1, e2, e3]
      refine TC.skip' ?_; (iterate 2 refine TC.seq ?_); refine TC.region ?_; refine TL.run1 (pure_move rfl) rfl ?_; refine TL.run1 (pure_len Ty.sl23 rfl) rfl ?_; refine TL.run1 (pure_move rfl) rfl ?_; refine TL.nil' ?_; refine TC.block ?_; refine TC.loopX (X := Nat × Value) (fun (i, v) => [(4, .v v), (5, .v (.int .i64 (nR s : Nat))), (30, .sl 3 (encTk (scL s) (bnds (cls s)))), (31, .v (.int .i64 (encTk (scL s) (bnds (cls s))).length)), (32, .v (.int .i64 i))]) (fun (i, v) => [.row v 3 1 (encI (stTo (scL s) (bnds (cls s)) i))]) (fun (i, v) => (i ≤ nT (scL s))) (fun (i, v) => nT (scL s) - i) (0, .slice none 0 0) ⟨by skip; repeat (first | exact Agree.nil | refine Agree.cons rfl ?_), by skip; repeat (first | exact List.nil_sublist _ | exact List.Sublist.refl _ | apply List.Sublist.cons_cons | apply List.Sublist.cons)⟩ ?_ ?_
      · skip
        exact Nat.zero_le _
      rintro ⟨i, v⟩
      intro h1
      show TC _ _ _ (Env.of [(4, .v v), (5, .v (.int .i64 (nR s : Nat))), (30, .sl 3 (encTk (scL s) (bnds (cls s)))), (31, .v (.int .i64 (encTk (scL s) (bnds (cls s))).length)), (32, .v (.int .i64 i))]) [.row v 3 1 (encI (stTo (scL s) (bnds (cls s)) i))]
      refine TC.seq ?_; refine TC.region ?_; refine TL.run1 (pure_lss rfl rfl) rfl ?_; refine TL.nil' ?_; refine TC.seq ?_; refine TC.condD rfl (fun hc33 => ?_) (fun hc33 => ?_)
      · try dsimp only at hc33
        refine TC.skip' ?_; refine TC.seq ?_; refine TC.block ?_; refine TC.seq ?_
        have hrow := tkr (scL s) (bnds (cls s)) i (by omega)
        have hkl := encI_len (stTo (scL s) (bnds (cls s)) i)
        have hsl := stTo_len (scL s) (bnds (cls s)) i
        refine TC.region ?_; refine TL.run1 (pure_indexAddr Ty.sl23 rfl rfl (by omega) hrow (List.cons_ne_nil _ _)) rfl ?_; refine TL.run1 (pure_load Ty.agg32 rfl (.succ (.succ (.succ (.zero _))))) rfl ?_; refine TL.alloc Ty.zero32 rfl (fun g9 => ?_); refine TL.store rfl rfl (.agg _) Tryd.sizeOf32 rfl (by repeat (first | exact UpdR.here _ | apply UpdR.there)) (by repeat (first | exact PutR.nil _ | apply PutR.here | apply PutR.skip)) ?_; refine TL.nil' ?_; refine TC.seq ?_; refine TC.region ?_; refine TL.run1 (pure_fieldAddr_own Ty.f32_0 rfl) rfl ?_; refine TL.run1 (pure_load1_own Ty.one3 rfl (by repeat (first | exact List.Mem.head _ | apply List.Mem.tail)) (by repeat (first | exact DropR.zero _ | apply DropR.succ))) rfl ?_; refine TL.run1 (pure_neq rfl rfl) rfl ?_; refine TL.nil' ?_; refine TC.condD rfl (fun hc38 => ?_) (fun hc38 => ?_)
        · try dsimp only at hc38
          refine TC.region ?_; refine TL.run1 (pure_move rfl) rfl ?_; refine TL.run1 (pure_fieldAddr_own Ty.f32_1 rfl) rfl ?_; refine TL.run1 (pure_load1_own Ty.one3 rfl (by repeat (first | exact List.Mem.head _ | apply List.Mem.tail)) (by repeat (first | exact DropR.zero _ | apply DropR.succ))) rfl ?_; refine TL.run1 (pure_buildSlice (xs := [.tmp 41]) Ty.app35 (by decide) rfl rfl (.cons rfl (.one rfl) rfl .nil)) rfl ?_; refine TL.append Ty.app35 rfl rfl (by intro _; repeat (first | exact UpdR.here _ | apply UpdR.there)) (by simp only [List.length_append, List.length_cons, List.length_nil]; omega) (by simp only [List.length_append, List.length_cons, List.length_nil]; omega) rfl (fun v43 hv43 => ?_); refine TL.run1 (pure_assign rfl) rfl ?_; refine TL.nil ?_; refine block_normal ?_; refine then_normal ?_; refine TC.region ?_; refine TL.run1 (pure_add rfl rfl (mkI64 (by omega) (by omega))) rfl ?_; refine TL.run1 (pure_move rfl) rfl ?_; refine TL.nil ?_
          have hst : encI (stTo (scL s) (bnds (cls s)) (i + 1)) = encI (stTo (scL s) (bnds (cls s)) i) ++ [[.v (.int .i64 (fT (scL s) (bnds (cls s)) i))]] := by rw [stTo, if_pos hc38, encI_snoc]
          refine loop_next (i + 1, v43) ⟨by ((try dsimp only); rw [show (((i + 1 : Nat)) : Int) = (i : Int) + 1 by omega]; repeat (first | exact Agree.nil | refine Agree.cons rfl ?_)), by (try dsimp only); rw [hst]; repeat (first | exact List.nil_sublist _ | exact List.Sublist.refl _ | apply List.Sublist.cons_cons | apply List.Sublist.cons)⟩ (show i + 1 ≤ _ by omega) (by (try dsimp only); omega)
        · try dsimp only at hc38
          refine TC.skip ?_; refine block_normal ?_; refine then_normal ?_; refine TC.region ?_; refine TL.run1 (pure_add rfl rfl (mkI64 (by omega) (by omega))) rfl ?_; refine TL.run1 (pure_move rfl) rfl ?_; refine TL.nil ?_
          have hst : encI (stTo (scL s) (bnds (cls s)) (i + 1)) = encI (stTo (scL s) (bnds (cls s)) i) := by rw [stTo, if_neg hc38, List.append_nil]
          refine loop_next (i + 1, v) ⟨by ((try dsimp only); rw [show (((i + 1 : Nat)) : Int) = (i : Int) + 1 by omega]; repeat (first | exact Agree.nil | refine Agree.cons rfl ?_)), by (try dsimp only); rw [hst]; repeat (first | exact List.nil_sublist _ | exact List.Sublist.refl _ | apply List.Sublist.cons_cons | apply List.Sublist.cons)⟩ (show i + 1 ≤ _ by omega) (by (try dsimp only); omega)
      · try dsimp only at hc33
        refine TC.exit ?_; refine then_exit ?_; refine loop_exit ?_; refine block_here ?_; refine then_normal ?_; refine TC.seq ?_; refine TC.region ?_; (iterate 2 refine TL.run1 (pure_move rfl) rfl ?_); (iterate 3 refine TL.run1 (pure_assign rfl) rfl ?_); refine TL.nil' ?_; refine TC.ret ?_
        have hi : i = nT (scL s) := by omega
        subst hi
        exact ret3F (.inl rfl) rfl rfl rfl (.tupL (.cons (.rowS (by repeat (first | exact List.Mem.head _ | apply List.Mem.tail)) (by decide) (encI_each _)) (.cons (.same _) (.cons (.same _) .nil))))
set_option maxRecDepth 100000 in
theorem SNext_spec (s : ByteArray) (u : Int) (hs : s.size ≤ 400000000) : Fun Tryd.prog 27 [.v (.string s), .v (.int .i64 u)] (.tup [.v (.int .i64 (nxV s u)), .v (.int .i64 (stE s u))]) := by
  refine Fun.enter (n := 33) (rs := [.tmp 4, .tmp 5]) Tryd.func27 rfl Tryd.ntmps27 Tryd.results27 rfl (fun w F => ?_)
  have hvl := stV_len s u
  refine TC.seq ?_; refine TC.region ?_; (iterate 2 refine TL.run1 (pure_assign rfl) rfl ?_); refine TL.nil' ?_; refine TC.seq ?_; refine TC.region ?_; (iterate 2 refine TL.run1 (pure_move rfl) rfl ?_); refine TL.run1 (pure_call (starts_spec s u hs) (.cons rfl (.cons rfl .nil)) Tryd.call51) rfl ?_; refine TL.run1 (pure_move rfl) rfl ?_; (iterate 3 refine TL.run1 (pure_extract rfl rfl) rfl ?_); (iterate 3 refine TL.run1 (pure_assign rfl) rfl ?_); refine TL.nil' ?_; (iterate 2 refine TC.seq ?_); refine TC.region ?_; refine TL.run1 (pure_move rfl) rfl ?_; refine TL.run1 (pure_neq rfl rfl) rfl ?_; refine TL.nil' ?_; refine TC.condD rfl (fun hc19 => ?_) (fun hc19 => ?_)
  · try dsimp only at hc19
    rw [(st_non hc19).1]
    refine TC.seq ?_; refine TC.region ?_; refine TL.run1 (pure_move rfl) rfl ?_; (iterate 2 refine TL.run1 (pure_assign rfl) rfl ?_); refine TL.nil' ?_; refine TC.ret ?_; refine then_ret ?_
    exact ret2 (.inl rfl) rfl rfl rfl
  · try dsimp only at hc19
    have h0 : stE s u = 0 := Classical.not_not.1 hc19
    obtain ⟨z1, z2, z3, z4⟩ := st_zero h0
    rw [z1] at hvl
    rw [z1, z2, z3]
    rw [h0]
    have hkl := encI_len (stB s)
    refine TC.skip' ?_; (iterate 2 refine TC.seq ?_); refine TC.region ?_; refine TL.run1 (pure_move rfl) rfl ?_; refine TL.run1 (pure_len Ty.sl35 rfl) rfl ?_; refine TL.run1 (pure_move rfl) rfl ?_; refine TL.nil' ?_; refine TC.block ?_; refine TC.loopX (X := Nat) (fun i => [(1, .v (.int .i64 u)), (7, .v (.int .i64 (nR s : Nat))), (21, .sl 1 (encI (stB s))), (22, .v (.int .i64 (encI (stB s)).length)), (23, .v (.int .i64 i))]) (fun i => []) (fun i => (i ≤ (stB s).length) ∧ (nxL (stB s) u (nR s) = nxL ((stB s).drop i) u (nR s))) (fun i => (stB s).length - i) (0) ⟨by skip; repeat (first | exact Agree.nil | refine Agree.cons rfl ?_), by skip; repeat (first | exact List.nil_sublist _ | exact List.Sublist.refl _ | apply List.Sublist.cons_cons | apply List.Sublist.cons)⟩ ?_ ?_
    · skip
      exact ⟨Nat.zero_le _, rfl⟩
    intro i
    rintro ⟨h1, h2⟩
    show TC _ _ _ (Env.of [(1, .v (.int .i64 u)), (7, .v (.int .i64 (nR s : Nat))), (21, .sl 1 (encI (stB s))), (22, .v (.int .i64 (encI (stB s)).length)), (23, .v (.int .i64 i))]) []
    refine TC.seq ?_; refine TC.region ?_; refine TL.run1 (pure_lss rfl rfl) rfl ?_; refine TL.nil' ?_; refine TC.seq ?_; refine TC.condD rfl (fun hc24 => ?_) (fun hc24 => ?_)
    · try dsimp only at hc24
      refine TC.skip' ?_; refine TC.seq ?_; refine TC.block ?_; refine TC.seq ?_
      have hrow : (encI (stB s))[((i : Nat) : Int).toNat]? = some [.v (.int .i64 (iAt (stB s) i))] := encI_get (stB s) i (by omega) (by omega)
      refine TC.region ?_; refine TL.run1 (pure_indexAddr Ty.sl35 rfl rfl (by omega) hrow (List.cons_ne_nil _ _)) rfl ?_; refine TL.run1 (pure_load1 Ty.one3 rfl) rfl ?_; refine TL.run1 (pure_assign rfl) rfl ?_; refine TL.nil' ?_; refine TC.seq ?_; refine TC.region ?_; (iterate 2 refine TL.run1 (pure_move rfl) rfl ?_); refine TL.run1 (pure_gtr rfl rfl) rfl ?_; refine TL.nil' ?_; refine TC.condD rfl (fun hc29 => ?_) (fun hc29 => ?_)
      · try dsimp only at hc29
        refine TC.seq ?_; refine TC.region ?_; refine TL.run1 (pure_move rfl) rfl ?_; (iterate 2 refine TL.run1 (pure_assign rfl) rfl ?_); refine TL.nil' ?_; refine TC.ret ?_; refine block_ret ?_; refine then_ret ?_; refine loop_ret ?_; refine block_ret ?_; refine then_ret ?_
        exact ret2 (.inl rfl) rfl rfl (by rw [h2, nxL_step (by omega), if_pos hc29])
      · try dsimp only at hc29
        refine TC.skip ?_; refine block_normal ?_; refine then_normal ?_; refine TC.region ?_; refine TL.run1 (pure_add rfl rfl (mkI64 (by omega) (by omega))) rfl ?_; refine TL.run1 (pure_move rfl) rfl ?_; refine TL.nil ?_; refine loop_next (i + 1) ⟨by ((try dsimp only); rw [show (((i + 1 : Nat)) : Int) = (i : Int) + 1 by omega]; repeat (first | exact Agree.nil | refine Agree.cons rfl ?_)), by repeat (first | exact List.nil_sublist _ | exact List.Sublist.refl _ | apply List.Sublist.cons_cons | apply List.Sublist.cons)⟩ ⟨by omega, by rw [h2, nxL_step (by omega), if_neg hc29]⟩ (by omega)
    · try dsimp only at hc24
      refine TC.exit ?_; refine then_exit ?_; refine loop_exit ?_; refine block_here ?_; refine then_normal ?_; refine TC.seq ?_; refine TC.region ?_; refine TL.run1 (pure_move rfl) rfl ?_; (iterate 2 refine TL.run1 (pure_assign rfl) rfl ?_); refine TL.nil' ?_; refine TC.ret ?_
      exact ret2 (.inl rfl) rfl rfl (by rw [h2, List.drop_eq_nil_of_le (by omega)]; rfl)
set_option maxRecDepth 100000 in
theorem SPrev_spec (s : ByteArray) (u : Int) (hs : s.size ≤ 400000000) : Fun Tryd.prog 28 [.v (.string s), .v (.int .i64 u)] (.tup [.v (.int .i64 (pvV s u)), .v (.int .i64 (stE s u))]) := by
  refine Fun.enter (n := 29) (rs := [.cell 4 3, .cell 5 24]) Tryd.func28 rfl Tryd.ntmps28 Tryd.results28 rfl (fun w F => ?_)
  have hvl := stV_len s u
  refine TC.seq ?_; refine TC.region ?_; refine TL.box rfl (.one rfl) rfl (fun g3 => ?_); refine TL.alloc Ty.zero3 rfl (fun g4 => ?_); refine TL.alloc Ty.zero24 rfl (fun g5 => ?_); refine TL.nil' ?_; refine TC.seq ?_; refine TC.region ?_; refine TL.run1 (pure_move rfl) rfl ?_; refine TL.run1 (pure_load1_own Ty.one3 rfl (by repeat (first | exact List.Mem.head _ | apply List.Mem.tail)) (by repeat (first | exact DropR.zero _ | apply DropR.succ))) rfl ?_; refine TL.run1 (pure_call (starts_spec s u hs) (.cons rfl (.cons rfl .nil)) Tryd.call51) rfl ?_; refine TL.run1 (pure_move rfl) rfl ?_; (iterate 3 refine TL.run1 (pure_extract rfl rfl) rfl ?_); (iterate 3 refine TL.run1 (pure_assign rfl) rfl ?_); refine TL.nil' ?_; (iterate 2 refine TC.seq ?_); refine TC.region ?_; refine TL.run1 (pure_move rfl) rfl ?_; refine TL.run1 (pure_neq rfl rfl) rfl ?_; refine TL.nil' ?_; refine TC.condD rfl (fun hc19 => ?_) (fun hc19 => ?_)
  · try dsimp only at hc19
    rw [(st_non hc19).2]
    refine TC.seq ?_; refine TC.region ?_; refine TL.run1 (pure_move rfl) rfl ?_; refine TL.store rfl rfl (.one (by first | rfl | assumption)) Tryd.sizeOf3 rfl (by repeat (first | exact UpdR.here _ | apply UpdR.there)) (by repeat (first | exact PutR.nil _ | apply PutR.here | apply PutR.skip)) ?_; refine TL.store rfl rfl (.one (by first | rfl | assumption)) Tryd.sizeOf24 rfl (by repeat (first | exact UpdR.here _ | apply UpdR.there)) (by repeat (first | exact PutR.nil _ | apply PutR.here | apply PutR.skip)) ?_; refine TL.nil' ?_; refine TC.ret ?_; refine then_ret ?_
    exact ret_one2 (.inl rfl) Ty.one3 rfl ((by repeat (first | exact List.Mem.head _ | apply List.Mem.tail))) Ty.one24 rfl ((by repeat (first | exact List.Mem.head _ | apply List.Mem.tail))) rfl
  · try dsimp only at hc19
    have h0 : stE s u = 0 := Classical.not_not.1 hc19
    obtain ⟨z1, z2, z3, z4⟩ := st_zero h0
    rw [z1] at hvl
    rw [z1, z4]
    rw [h0]
    have hkl0 := encI_len (stB s)
    refine TC.skip' ?_; (iterate 2 refine TC.seq ?_); refine TC.region ?_; refine TL.run1 (pure_move rfl) rfl ?_; refine TL.run1 (pure_call (back_spec (stB s)) (.cons rfl .nil) Tryd.call52) rfl ?_; refine TL.nil' ?_; refine TC.block ?_; refine TC.rangeFunc (caps := [.at_ [.sl 1 (encI (stB s))]]) (xs := (encBk (stB s))) rfl rfl Tryd.call77 (back_seq (stB s) (by omega)) (fun k H => pvL (stB s) u (stB s).length = pvL (stB s) u ((stB s).length - k) ∧ List.Sublist [Blk.box g5 24 [.v (.int .i64 0)], .box g4 3 [.v (.int .i64 0)], .box g3 3 [.v (.int .i64 u)]] H) (fun e H => e = .ret ∧ List.Sublist [Blk.box g5 24 [.v (.int .i64 0)], .box g4 3 [.v (.int .i64 (pvL (stB s) u (stB s).length))], .box g3 3 [.v (.int .i64 u)]] H) ⟨rfl, List.Sublist.refl _⟩ ?_ (by rfl) ?_ ?_ ?_ ?_
    · skip
      intro x hx
      obtain ⟨k, _, rfl⟩ := List.mem_map.1 hx
      rfl
    · skip
      rintro k x Hc w F S l hx ⟨hv, hsub⟩
      refine TC.forget (fun _ _ h => h) hsub ?_
      have hkl : k < (stB s).length := by have := (List.getElem?_eq_some_iff.1 hx).1; rwa [encBk_len] at this
      rw [encBk_get (stB s) k hkl] at hx
      obtain rfl := Option.some.inj hx
      refine TC.region ?_; refine TL.run1 (pure_assign rfl) rfl ?_; refine TL.nil ?_; refine ⟨rfl, fun w F S => ?_⟩; refine TC.block ?_; refine TC.seq ?_; refine TC.region ?_; refine TL.run1 (pure_move rfl) rfl ?_; refine TL.run1 (pure_load1_own Ty.one3 rfl (by repeat (first | exact List.Mem.head _ | apply List.Mem.tail)) (by repeat (first | exact DropR.zero _ | apply DropR.succ))) rfl ?_; refine TL.run1 (pure_lss rfl rfl) rfl ?_; refine TL.nil' ?_; refine TC.condD rfl (fun hc27 => ?_) (fun hc27 => ?_)
      · try dsimp only at hc27
        refine TC.seq ?_; refine TC.region ?_; refine TL.run1 (pure_move rfl) rfl ?_; refine TL.store rfl rfl (.one (by first | rfl | assumption)) Tryd.sizeOf3 rfl (by repeat (first | exact UpdR.here _ | apply UpdR.there)) (by repeat (first | exact PutR.nil _ | apply PutR.here | apply PutR.skip)) ?_; refine TL.store rfl rfl (.one (by first | rfl | assumption)) Tryd.sizeOf24 rfl (by repeat (first | exact UpdR.here _ | apply UpdR.there)) (by repeat (first | exact PutR.nil _ | apply PutR.here | apply PutR.skip)) ?_; refine TL.nil' ?_; refine TC.ret ?_; refine block_ret ?_
        rw [hv, pvL_back hkl, if_pos hc27]
        exact ⟨rfl, List.Sublist.refl _⟩
      · try dsimp only at hc27
        refine TC.skip ?_; refine block_normal ?_
        exact ⟨by rw [hv, pvL_back hkl, if_neg hc27], List.Sublist.refl _⟩
    · skip
      rintro Hc ⟨hv, hsub⟩
      refine block_normal ?_; refine then_normal ?_; refine TC.seq ?_; refine TC.forget (fun _ _ h => h) hsub ?_; refine TC.region ?_; refine TL.store rfl rfl (.one (by first | rfl | assumption)) Tryd.sizeOf3 rfl (by repeat (first | exact UpdR.here _ | apply UpdR.there)) (by repeat (first | exact PutR.nil _ | apply PutR.here | apply PutR.skip)) ?_; refine TL.store rfl rfl (.one (by first | rfl | assumption)) Tryd.sizeOf24 rfl (by repeat (first | exact UpdR.here _ | apply UpdR.there)) (by repeat (first | exact PutR.nil _ | apply PutR.here | apply PutR.skip)) ?_; refine TL.nil' ?_; refine TC.ret ?_
      exact ret_one2 (.inl rfl) Ty.one3 rfl ((by repeat (first | exact List.Mem.head _ | apply List.Mem.tail))) Ty.one24 rfl ((by repeat (first | exact List.Mem.head _ | apply List.Mem.tail))) (by rw [hv, encBk_len, Nat.sub_self]; rfl)
    · skip
      rintro Hc ⟨_, hsub⟩
      refine block_ret ?_; refine then_ret ?_
      exact ret_one2 (.inl rfl) Ty.one3 rfl (hsub.mem (by repeat (first | exact List.Mem.head _ | apply List.Mem.tail))) Ty.one24 rfl (hsub.mem (by repeat (first | exact List.Mem.head _ | apply List.Mem.tail))) rfl
    · skip
      rintro id Hc ⟨he, _⟩
      cases he
end Go.Ob
