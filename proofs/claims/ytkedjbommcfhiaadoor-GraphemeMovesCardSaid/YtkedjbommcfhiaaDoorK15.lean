import Derived.Test.YtkedjbommcfhiaaDoorK14
set_option linter.unusedVariables false
set_option linter.unusedSimpArgs false
namespace Go.Ob
open Go.Proofs

theorem nextP_at {l : List Int} (hl : Inc l) (i : Int) (h0 : 0 ≤ i) (h1 : i < l.length) : nextP l (iAt l i) = iAt l (min (i + 1) ((l.length : Int) - 1)) := by
  have h := (lb_at hl i.toNat (by omega)).2
  rw [kAt_iAt l i h0] at h
  unfold nextP
  rw [h, show ((i.toNat + 1 : Nat) : Int) = i + 1 by omega]
theorem prevP_at {l : List Int} (hl : Inc l) (i : Int) (h0 : 0 ≤ i) (h1 : i < l.length) : floorP l (iAt l i - 1) = iAt l (max 0 (i - 1)) := by
  have h := (lb_at hl i.toNat (by omega)).1
  rw [kAt_iAt l i h0] at h
  unfold floorP
  rw [show iAt l i - 1 + 1 = iAt l i by omega, h, show ((i.toNat : Nat) : Int) = i by omega]
set_option maxRecDepth 100000 in
theorem GraphemeWalks_spec (s : ByteArray) : Fun Tryd.prog 10 [.v (.string s)] (.v (.bool true)) := by
  refine Fun.enter (n := 85) (rs := [.tmp 2]) Tryd.func10 rfl Tryd.ntmps10 Tryd.results10 rfl (fun w F => ?_)
  refine TC.seq ?_
  refine TC.region ?_
  refine TL.run1 (pure_assign rfl) rfl ?_
  refine TL.nil' ?_
  refine TC.seq ?_
  refine TC.region ?_
  refine TL.run1 (pure_move rfl) rfl ?_
  refine TL.run1 (pure_call (cut_spec s) (.cons rfl .nil) Tryd.call15) rfl ?_
  refine TL.run1 (pure_assign rfl) rfl ?_
  refine TL.nil' ?_
  refine TC.seq ?_
  obtain ⟨c, hcd⟩ : ∃ c, cutS s = c := ⟨_, rfl⟩
  rw [hcd]
  have hcs : c.size ≤ 300 := hcd ▸ cutS_size s
  have hnl := nR_le c
  have hbl : (bnds (cls c)).length = (cAll (cls c)).length + 1 := ends_len _
  have hcl := cAll_len_le (cls c)
  rw [cls_len] at hcl
  have hkb := encI_len (bnds (cls c))
  have hbp := bnds_pos (cls c)
  refine TC.region ?_
  refine TL.run1 (pure_move rfl) rfl ?_
  refine TL.run1 (pure_call (Points_spec c (by omega)) (.cons rfl .nil) Tryd.call17) rfl ?_
  refine TL.run1 (pure_move rfl) rfl ?_
  refine TL.run1 (pure_extract rfl rfl) rfl ?_
  refine TL.run1 (pure_extract rfl rfl) rfl ?_
  refine TL.run1 (pure_extract rfl rfl) rfl ?_
  refine TL.run1 (pure_assign rfl) rfl ?_
  refine TL.run1 (pure_assign rfl) rfl ?_
  refine TL.run1 (pure_assign rfl) rfl ?_
  refine TL.nil' ?_
  refine TC.seq ?_
  refine TC.regionCut [22, 23, 24, 25, 26, 27] 27 (okS c = false) ?_ ?_
  · skip
    refine TL.run1 (pure_call (known_spec) .nil Tryd.call12) rfl ?_
    refine TL.run1 (pure_not rfl) rfl ?_
    refine TL.run1 (pure_move rfl) rfl ?_
    first | refine TL.splitP 24 rfl (fun hg24 => ?_) (fun hg24 => ?_) | refine TL.split 24 rfl (fun hg24 => ?_) (fun hg24 => ?_)
    · try dsimp only at hg24
      refine TL.passG rfl rfl rfl rfl ?_
      refine TL.passG rfl rfl rfl rfl ?_
      refine TL.run1 (pure_pick_true rfl rfl) rfl ?_
      refine TL.cutEnd (by repeat (first | exact Same.refl _ _ | refine Same.put rfl ?_)) rfl ?_
      first | (simp_all; done) | grind
    · try dsimp only at hg24
      refine TL.runG rfl rfl (pure_move rfl) rfl ?_
      refine TL.runG rfl rfl (pure_not rfl) rfl ?_
      refine TL.run1 (pure_pick_false rfl rfl) rfl ?_
      refine TL.cutEnd (by repeat (first | exact Same.refl _ _ | refine Same.put rfl ?_)) rfl ?_
      first | (simp_all; done) | grind
  first | refine TC.condD rfl (fun hc27 => ?_) (fun hc27 => ?_) | refine TC.condN rfl (fun hc27 => ?_) (fun hc27 => ?_) | refine TC.cond rfl (fun hc27 => ?_) (fun hc27 => ?_)
  · try dsimp only at hc27
    refine TC.seq ?_
    refine TC.region ?_
    refine TL.run1 (pure_call (known_spec) .nil Tryd.call12) rfl ?_
    refine TL.run1 (pure_assign rfl) rfl ?_
    refine TL.nil' ?_
    refine TC.ret ?_
    refine then_ret ?_
    exact ret_bool rfl (by simp)
  · try dsimp only at hc27
    have hok : okS c = true := by (cases h : okS c with | true => rfl | false => exact absurd h hc27)
    obtain ⟨v1, v2, v3, v4, v5⟩ := okV hok
    rw [v1]
    have hlp : ((encI (pts c)).length : Int) = nR c := by rw [encI_len, pts_len]
    refine TC.skip' ?_
    refine TC.seq ?_
    refine TC.region ?_
    refine TL.run1 (pure_move rfl) rfl ?_
    refine TL.run1 (pure_call (RBnd_spec c (by omega)) (.cons rfl .nil) Tryd.call19) rfl ?_
    refine TL.run1 (pure_assign rfl) rfl ?_
    refine TL.nil' ?_
    refine TC.seq ?_
    refine TC.region ?_
    refine TL.run1 (pure_move rfl) rfl ?_
    first | refine TL.run1 (pure_len Ty.sl26 rfl) rfl ?_ | refine TL.run1 (pure_len_row Ty.sl26 rfl (by repeat (first | exact List.Mem.head _ | apply List.Mem.tail))) rfl ?_ | refine TL.run1 (pure_len_nil Ty.sl26 rfl) rfl ?_
    refine TL.run1 (pure_assign rfl) rfl ?_
    refine TL.run1 (pure_assign rfl) rfl ?_
    refine TL.nil' ?_
    refine TC.seq ?_
    refine TC.seq ?_
    refine TC.region ?_
    refine TL.run1 (pure_assign rfl) rfl ?_
    refine TL.nil' ?_
    refine TC.block ?_
    refine TC.loopX (X := Int) (fun i => [(0, .v (.string c)), (3, .sl 1 (encI (pts c))), (6, .sl 1 (encI (bnds (cls c)))), (7, .v (.int .i64 (iAt (bnds (cls c)) (min i (((bnds (cls c)).length : Int) - 1))))), (8, .v (.int .i64 (iAt (bnds (cls c)) (max 0 ((((bnds (cls c)).length : Int) - 1) - i))))), (9, .v (.int .i64 i))]) (fun i => []) (fun i => (0 ≤ i) ∧ (i ≤ (bnds (cls c)).length)) (fun i => ((bnds (cls c)).length - i).toNat) (0) ⟨by (try dsimp only); rw [show min 0 (((bnds (cls c)).length : Int) - 1) = 0 by omega, show max 0 ((((bnds (cls c)).length : Int) - 1) - 0) = (((bnds (cls c)).length : Int) - 1) by omega, bnds_last, cls_len, bnds_zero, ← hlp]; repeat (first | exact Agree.nil | refine Agree.cons rfl ?_), by skip; repeat (first | exact List.nil_sublist _ | exact List.Sublist.refl _ | apply List.Sublist.cons_cons | apply List.Sublist.cons)⟩ ?_ ?_
    · skip
      exact ⟨by omega, by omega⟩
    intro i
    rintro ⟨h0, h1⟩
    show TC _ _ _ (Env.of [(0, .v (.string c)), (3, .sl 1 (encI (pts c))), (6, .sl 1 (encI (bnds (cls c)))), (7, .v (.int .i64 (iAt (bnds (cls c)) (min i (((bnds (cls c)).length : Int) - 1))))), (8, .v (.int .i64 (iAt (bnds (cls c)) (max 0 ((((bnds (cls c)).length : Int) - 1) - i))))), (9, .v (.int .i64 i))]) []
    refine TC.seq ?_
    refine TC.seq ?_
    refine TC.region ?_
    refine TL.run1 (pure_move rfl) rfl ?_
    refine TL.run1 (pure_move rfl) rfl ?_
    first | refine TL.run1 (pure_len Ty.sl26 rfl) rfl ?_ | refine TL.run1 (pure_len_row Ty.sl26 rfl (by repeat (first | exact List.Mem.head _ | apply List.Mem.tail))) rfl ?_ | refine TL.run1 (pure_len_nil Ty.sl26 rfl) rfl ?_
    refine TL.run1 (pure_lss rfl rfl) rfl ?_
    refine TL.nil' ?_
    first | refine TC.condD rfl (fun hc36 => ?_) (fun hc36 => ?_) | refine TC.condN rfl (fun hc36 => ?_) (fun hc36 => ?_) | refine TC.cond rfl (fun hc36 => ?_) (fun hc36 => ?_)
    · try dsimp only at hc36
      refine TC.skip' ?_
      refine TC.seq ?_
      refine TC.block ?_
      refine TC.seq ?_
      have hq1 : (iAt (bnds (cls c)) (min i (((bnds (cls c)).length : Int) - 1))) = iAt (bnds (cls c)) i := by rw [show min i (((bnds (cls c)).length : Int) - 1) = i by omega]
      have hq2 : (iAt (bnds (cls c)) (max 0 ((((bnds (cls c)).length : Int) - 1) - i))) = iAt (bnds (cls c)) ((((bnds (cls c)).length : Int) - 1) - i) := by rw [show max 0 ((((bnds (cls c)).length : Int) - 1) - i) = (((bnds (cls c)).length : Int) - 1) - i by omega]
      have hra := encI_get (bnds (cls c)) i h0 (by omega)
      have hrb := encI_get (bnds (cls c)) ((((bnds (cls c)).length : Int) - 1) - i) (by omega) (by omega)
      have hrb2 : (encI (bnds (cls c)))[(((encI (bnds (cls c))).length : Int) - 1 - i).toNat]? = some [.v (.int .i64 (iAt (bnds (cls c)) ((((bnds (cls c)).length : Int) - 1) - i)))] := by rw [hkb]; exact hrb
      have hb1 := bnds_le (cls c) i h0 (by omega)
      have hb2 := bnds_le (cls c) ((((bnds (cls c)).length : Int) - 1) - i) (by omega) (by omega)
      rw [cls_len] at hb1 hb2
      have he1 : errW c (iAt (bnds (cls c)) (min i (((bnds (cls c)).length : Int) - 1))) = 0 := by rw [hq1]; exact errW_ok hok (by omega)
      have he2 : errW c (iAt (bnds (cls c)) (max 0 ((((bnds (cls c)).length : Int) - 1) - i))) = 0 := by rw [hq2]; exact errW_ok hok (by omega)
      have hn1 : movV c (iAt (bnds (cls c)) (min i (((bnds (cls c)).length : Int) - 1))) (nextP (bnds (cls c)) (iAt (bnds (cls c)) (min i (((bnds (cls c)).length : Int) - 1)))) = (iAt (bnds (cls c)) (min (i + 1) (((bnds (cls c)).length : Int) - 1))) := by rw [movV_ok he1, hq1, nextP_at (inc_bnds _) i h0 (by omega)]
      have hn2 : movV c (iAt (bnds (cls c)) (max 0 ((((bnds (cls c)).length : Int) - 1) - i))) (floorP (bnds (cls c)) ((iAt (bnds (cls c)) (max 0 ((((bnds (cls c)).length : Int) - 1) - i))) - 1)) = (iAt (bnds (cls c)) (max 0 ((((bnds (cls c)).length : Int) - 1) - (i + 1)))) := by rw [movV_ok he2, hq2, prevP_at (inc_bnds _) _ (by omega) (by omega), show (((bnds (cls c)).length : Int) - 1) - (i + 1) = (((bnds (cls c)).length : Int) - 1) - i - 1 by omega]
      refine TC.regionCut [39, 40, 41, 42, 43, 44, 45, 46, 47, 48, 49, 50, 51, 52, 53, 54, 55, 56] 56 (False) ?_ ?_
      · skip
        refine TL.run1 (pure_move rfl) rfl ?_
        refine TL.run1 (pure_move rfl) rfl ?_
        refine TL.run1 (pure_move rfl) rfl ?_
        refine TL.run1 (pure_indexAddr Ty.sl26 rfl rfl (by omega) hra (List.cons_ne_nil _ _)) rfl ?_
        first | refine TL.run1 (pure_load1 Ty.one3 rfl) rfl ?_ | refine TL.run1 (pure_load1_own Ty.one3 rfl (by repeat (first | exact List.Mem.head _ | apply List.Mem.tail)) (by repeat (first | exact DropR.zero _ | apply DropR.succ))) rfl ?_
        refine TL.run1 (pure_neq rfl rfl) rfl ?_
        refine TL.run1 (pure_move rfl) rfl ?_
        first | refine TL.splitP 45 rfl (fun hg45 => ?_) (fun hg45 => ?_) | refine TL.split 45 rfl (fun hg45 => ?_) (fun hg45 => ?_)
        · try dsimp only at hg45
          refine TL.passG rfl rfl rfl rfl ?_
          refine TL.passG rfl rfl rfl rfl ?_
          refine TL.passG rfl rfl rfl rfl ?_
          refine TL.passG rfl rfl rfl rfl ?_
          refine TL.passG rfl rfl rfl rfl ?_
          refine TL.passG rfl rfl rfl rfl ?_
          refine TL.passG rfl rfl rfl rfl ?_
          refine TL.passG rfl rfl rfl rfl ?_
          refine TL.passG rfl rfl rfl rfl ?_
          refine TL.passG rfl rfl rfl rfl ?_
          refine TL.run1 (pure_pick_true rfl rfl) rfl ?_
          refine TL.cutEnd (by repeat (first | exact Same.refl _ _ | refine Same.put rfl ?_)) rfl ?_
          first | exact absurd hq1 hg45 | (simp only [decide_eq_true_eq, iff_false, ne_eq, Decidable.not_not, Bool.false_eq_true]; first | exact hq2 | exact hq2.symm) | simp
        · try dsimp only at hg45
          refine TL.runG rfl rfl (pure_move rfl) rfl ?_
          refine TL.runG rfl rfl (pure_move rfl) rfl ?_
          refine TL.runG rfl rfl (pure_move rfl) rfl ?_
          first | refine TL.runG rfl rfl (pure_len Ty.sl26 rfl) rfl ?_ | refine TL.runG rfl rfl (pure_len_row Ty.sl26 rfl (by repeat (first | exact List.Mem.head _ | apply List.Mem.tail))) rfl ?_ | refine TL.runG rfl rfl (pure_len_nil Ty.sl26 rfl) rfl ?_
          refine TL.runG rfl rfl (pure_sub rfl rfl (mkI64 (by omega) (by omega))) rfl ?_
          refine TL.runG rfl rfl (pure_move rfl) rfl ?_
          refine TL.runG rfl rfl (pure_sub rfl rfl (mkI64 (by omega) (by omega))) rfl ?_
          refine TL.runG rfl rfl (pure_indexAddr Ty.sl26 rfl rfl (by omega) hrb2 (List.cons_ne_nil _ _)) rfl ?_
          first | refine TL.runG rfl rfl (pure_load1 Ty.one3 rfl) rfl ?_ | refine TL.runG rfl rfl (pure_load1_own Ty.one3 rfl (by repeat (first | exact List.Mem.head _ | apply List.Mem.tail)) (by repeat (first | exact DropR.zero _ | apply DropR.succ))) rfl ?_
          refine TL.runG rfl rfl (pure_neq rfl rfl) rfl ?_
          refine TL.run1 (pure_pick_false rfl rfl) rfl ?_
          refine TL.cutEnd (by repeat (first | exact Same.refl _ _ | refine Same.put rfl ?_)) rfl ?_
          first | exact absurd hq1 hg45 | (simp only [decide_eq_true_eq, iff_false, ne_eq, Decidable.not_not, Bool.false_eq_true]; first | exact hq2 | exact hq2.symm) | simp
      first | refine TC.condD rfl (fun hc56 => ?_) (fun hc56 => ?_) | refine TC.condN rfl (fun hc56 => ?_) (fun hc56 => ?_) | refine TC.cond rfl (fun hc56 => ?_) (fun hc56 => ?_)
      · try dsimp only at hc56
        all_goals exact hc56.elim
      · try dsimp only at hc56
        refine TC.skip' ?_
        refine TC.seq ?_
        refine TC.region ?_
        refine TL.run1 (pure_move rfl) rfl ?_
        refine TL.run1 (pure_move rfl) rfl ?_
        refine TL.run1 (pure_call (GNext_spec c (iAt (bnds (cls c)) (min i (((bnds (cls c)).length : Int) - 1))) (by omega)) (.cons rfl (.cons rfl .nil)) Tryd.call25) rfl ?_
        refine TL.run1 (pure_move rfl) rfl ?_
        refine TL.run1 (pure_extract rfl rfl) rfl ?_
        refine TL.run1 (pure_extract rfl rfl) rfl ?_
        refine TL.run1 (pure_assign rfl) rfl ?_
        refine TL.run1 (pure_assign rfl) rfl ?_
        refine TL.nil' ?_
        refine TC.seq ?_
        refine TC.region ?_
        refine TL.run1 (pure_move rfl) rfl ?_
        refine TL.run1 (pure_move rfl) rfl ?_
        refine TL.run1 (pure_call (GPrev_spec c (iAt (bnds (cls c)) (max 0 ((((bnds (cls c)).length : Int) - 1) - i))) (by omega)) (.cons rfl (.cons rfl .nil)) Tryd.call26) rfl ?_
        refine TL.run1 (pure_move rfl) rfl ?_
        refine TL.run1 (pure_extract rfl rfl) rfl ?_
        refine TL.run1 (pure_extract rfl rfl) rfl ?_
        refine TL.run1 (pure_assign rfl) rfl ?_
        refine TL.run1 (pure_assign rfl) rfl ?_
        refine TL.nil' ?_
        refine TC.seq ?_
        rw [he1, he2]
        refine TC.regionCut [69, 70, 71, 72, 73, 74] 74 (False) ?_ ?_
        · skip
          refine TL.run1 (pure_move rfl) rfl ?_
          refine TL.run1 (pure_neq rfl rfl) rfl ?_
          refine TL.run1 (pure_move rfl) rfl ?_
          first | refine TL.splitP 71 rfl (fun hg71 => ?_) (fun hg71 => ?_) | refine TL.split 71 rfl (fun hg71 => ?_) (fun hg71 => ?_)
          · try dsimp only at hg71
            refine TL.passG rfl rfl rfl rfl ?_
            refine TL.passG rfl rfl rfl rfl ?_
            refine TL.run1 (pure_pick_true rfl rfl) rfl ?_
            refine TL.cutEnd (by repeat (first | exact Same.refl _ _ | refine Same.put rfl ?_)) rfl ?_
            first | (simp; done) | (simp_all; done)
          · try dsimp only at hg71
            refine TL.runG rfl rfl (pure_move rfl) rfl ?_
            refine TL.runG rfl rfl (pure_neq rfl rfl) rfl ?_
            refine TL.run1 (pure_pick_false rfl rfl) rfl ?_
            refine TL.cutEnd (by repeat (first | exact Same.refl _ _ | refine Same.put rfl ?_)) rfl ?_
            first | (simp; done) | (simp_all; done)
        first | refine TC.condD rfl (fun hc74 => ?_) (fun hc74 => ?_) | refine TC.condN rfl (fun hc74 => ?_) (fun hc74 => ?_) | refine TC.cond rfl (fun hc74 => ?_) (fun hc74 => ?_)
        · try dsimp only at hc74
          all_goals exact hc74.elim
        · try dsimp only at hc74
          refine TC.skip' ?_
          refine TC.region ?_
          refine TL.run1 (pure_move rfl) rfl ?_
          refine TL.run1 (pure_move rfl) rfl ?_
          refine TL.run1 (pure_assign rfl) rfl ?_
          refine TL.run1 (pure_assign rfl) rfl ?_
          refine TL.nil ?_
          refine block_normal ?_
          refine then_normal ?_
          refine TC.region ?_
          refine TL.run1 (pure_move rfl) rfl ?_
          refine TL.run1 (pure_add rfl rfl (mkI64 (by omega) (by omega))) rfl ?_
          refine TL.run1 (pure_assign rfl) rfl ?_
          refine TL.nil ?_
          refine loop_next (i + 1) ⟨by (rw [← hn1, ← hn2]; repeat (first | exact Agree.nil | refine Agree.cons rfl ?_)), by repeat (first | exact List.nil_sublist _ | exact List.Sublist.refl _ | apply List.Sublist.cons_cons | apply List.Sublist.cons)⟩ ⟨by omega, by omega⟩ (by omega)
    · try dsimp only at hc36
      refine TC.exit ?_
      refine then_exit ?_
      refine loop_exit ?_
      refine block_here ?_
      refine then_normal ?_
      have hf1 : (iAt (bnds (cls c)) (min i (((bnds (cls c)).length : Int) - 1))) = nR c := by rw [show min i (((bnds (cls c)).length : Int) - 1) = (((bnds (cls c)).length : Int) - 1) by omega, bnds_last, cls_len]
      have hf2 : (iAt (bnds (cls c)) (max 0 ((((bnds (cls c)).length : Int) - 1) - i))) = 0 := by rw [show max 0 ((((bnds (cls c)).length : Int) - 1) - i) = 0 by omega, bnds_zero]
      rw [hf1, hf2]
      refine TC.regionCut [77, 78, 79, 80, 81, 82, 83, 84, 2] 2 (True) ?_ ?_
      · skip
        refine TL.run1 (pure_move rfl) rfl ?_
        refine TL.run1 (pure_move rfl) rfl ?_
        first | refine TL.run1 (pure_len Ty.sl26 rfl) rfl ?_ | refine TL.run1 (pure_len_row Ty.sl26 rfl (by repeat (first | exact List.Mem.head _ | apply List.Mem.tail))) rfl ?_ | refine TL.run1 (pure_len_nil Ty.sl26 rfl) rfl ?_
        refine TL.run1 (pure_eql rfl rfl) rfl ?_
        refine TL.run1 (pure_move rfl) rfl ?_
        first | refine TL.splitP 81 rfl (fun hg81 => ?_) (fun hg81 => ?_) | refine TL.split 81 rfl (fun hg81 => ?_) (fun hg81 => ?_)
        · try dsimp only at hg81
          refine TL.runG rfl rfl (pure_move rfl) rfl ?_
          refine TL.runG rfl rfl (pure_eql rfl rfl) rfl ?_
          refine TL.run1 (pure_pick_true rfl rfl) rfl ?_
          refine TL.run1 (pure_assign rfl) rfl ?_
          refine TL.cutEnd (by repeat (first | exact Same.refl _ _ | refine Same.put rfl ?_)) rfl ?_
          first | (simp_all; done) | (simp_all; omega) | grind
        · try dsimp only at hg81
          refine TL.passG rfl rfl rfl rfl ?_
          refine TL.passG rfl rfl rfl rfl ?_
          refine TL.run1 (pure_pick_false rfl rfl) rfl ?_
          refine TL.run1 (pure_assign rfl) rfl ?_
          refine TL.cutEnd (by repeat (first | exact Same.refl _ _ | refine Same.put rfl ?_)) rfl ?_
          first | (simp_all; done) | (simp_all; omega) | grind
      refine TC.ret ?_
      exact ret_bool rfl (by simp)
end Go.Ob
