import Derived.Test.YtcfnfioefbkamaaDoorS6
import Derived.Test.YtcfnfioefbkamaaDoorS4
set_option linter.unusedVariables false
set_option linter.unusedSimpArgs false
namespace Go.Ob
open Go.Proofs
set_option maxHeartbeats 1000000 in
set_option maxRecDepth 100000 in
theorem Breaks_spec (s : ByteArray) (hs : s.size ≤ 500000000) : Fun Tryd.prog 18 [.v (.string s)] (.tup [.sl 2 (brkV s), .v (.int .i64 (errU s))]) := by
  refine Fun.enterF (n := 58) (rs := [.tmp 2, .tmp 3]) Tryd.func18 rfl Tryd.ntmps18 Tryd.results18 rfl (fun w F => ?_); refine TC.seq ?_; refine TC.region ?_; (iterate 2 refine TL.run1 (pure_assign rfl) rfl ?_); refine TL.nil' ?_; refine TC.seq ?_; refine TC.region ?_; refine TL.run1 (pure_move rfl) rfl ?_; refine TL.run1 (pure_call (clusters3_spec s (by omega)) (.cons rfl .nil) Tryd.call30) rfl ?_; refine TL.run1 (pure_move rfl) rfl ?_; (iterate 2 refine TL.run1 (pure_extract rfl rfl) rfl ?_); (iterate 2 refine TL.run1 (pure_assign rfl) rfl ?_); refine TL.nil' ?_; (iterate 2 refine TC.seq ?_); refine TC.region ?_; refine TL.run1 (pure_move rfl) rfl ?_; refine TL.run1 (pure_neq rfl rfl) rfl ?_; refine TL.nil' ?_; refine TC.condD rfl (fun hc19 => ?_) (fun hc19 => ?_)
  · try dsimp only at hc19
    have hok : okS s = false := errU_bad0 hc19
    refine TC.seq ?_; refine TC.nilrow 46 2 ?_; refine TC.region ?_; refine TL.run1 (pure_move rfl) rfl ?_; (iterate 2 refine TL.run1 (pure_assign rfl) rfl ?_); refine TL.nil' ?_; refine TC.ret ?_; refine then_ret ?_
    unfold brkV errU; rw [hok]
    exact retF2 (.inl rfl) rfl rfl (.tupL (.cons (.rowS (v := .slice none 0 0) (e := 46) (xs := []) (by repeat (first | exact List.Mem.head _ | apply List.Mem.tail)) (by decide) (by simp)) (.cons (.same _) .nil)))
  · try dsimp only at hc19
    have hok : okS s = true := errU_ok0 hc19
    obtain ⟨v1, _, v3, _, v5⟩ := okV hok
    have hkv : kluV s = encK (scL s) (bnds (cls s)) := by unfold kluV; rw [if_pos hok]
    rw [hkv, v5]
    refine TC.nilrow 46 2 ?_
    have hcl := cAll_len_le (cls s)
    rw [cls_len] at hcl
    have hnl := nR_le s
    have hsl := scL_len s
    have hbl0 : (bnds (cls s)).length = (cAll (cls s)).length + 1 := ends_len _
    obtain ⟨c, hcd⟩ : ∃ c, scL s = c := ⟨_, rfl⟩
    obtain ⟨b, hbd⟩ : ∃ b, (bnds (cls s)) = b := ⟨_, rfl⟩
    rw [hcd, hbd]
    rw [hcd] at hsl
    rw [hbd] at hbl0
    have hbl : b.length = c.length + 1 := by omega
    have hcc : c.length ≤ 1000000001 := by omega
    have hkl := encK_len c b
    refine TC.skip' ?_; refine TC.seq ?_; refine TC.region ?_; refine TL.run1 (pure_call (rules_spec) .nil Tryd.call38) rfl ?_; refine TL.run1 (pure_assign rfl) rfl ?_; refine TL.nil' ?_; refine TC.seq ?_; refine TC.region ?_; refine TL.run1 (pure_assign rfl) rfl ?_; refine TL.nil' ?_; (iterate 2 refine TC.seq ?_); refine TC.region ?_; refine TL.run1 (pure_assign rfl) rfl ?_; refine TL.nil' ?_; refine TC.block ?_; refine TC.loopX (X := Nat × Value) (fun (i, v) => [(4, .sl 3 (encK c b)), (6, .sl 1 rulesD), (7, .v v), (8, .v (.int .i64 i))]) (fun (i, v) => [.row v 46 2 (brkTo c b i)]) (fun (i, v) => (i ≤ c.length - 1)) (fun (i, v) => c.length - i) (0, .slice none 0 0) ⟨by skip; repeat (first | exact Agree.nil | refine Agree.cons rfl ?_), by skip; repeat (first | exact List.nil_sublist _ | exact List.Sublist.refl _ | apply List.Sublist.cons_cons | apply List.Sublist.cons)⟩ ?_ ?_
    · skip
      exact Nat.zero_le _
    rintro ⟨i, v⟩
    intro h1
    show TC _ _ _ (Env.of [(4, .sl 3 (encK c b)), (6, .sl 1 rulesD), (7, .v v), (8, .v (.int .i64 i))]) [.row v 46 2 (brkTo c b i)]
    have hkl := encK_len c b
    (iterate 2 refine TC.seq ?_); refine TC.region ?_; refine TL.run1 (pure_move rfl) rfl ?_; refine TL.run1 (pure_add rfl rfl (mkI64 (by omega) (by omega))) rfl ?_; refine TL.run1 (pure_move rfl) rfl ?_; refine TL.run1 (pure_len Ty.sl62 rfl) rfl ?_; refine TL.run1 (pure_lss rfl rfl) rfl ?_; refine TL.nil' ?_; refine TC.condD rfl (fun hc26 => ?_) (fun hc26 => ?_)
    · try dsimp only at hc26
      refine TC.skip' ?_; refine TC.seq ?_; refine TC.block ?_; refine TC.seq ?_; refine TC.region ?_; refine TL.run1 (pure_move rfl) rfl ?_; refine TL.run1 (pure_len Ty.sl72 rfl) rfl ?_; refine TL.run1 (pure_move rfl) rfl ?_; refine TL.nil' ?_; refine TC.block ?_; refine TC.loopX (X := Nat) (fun j => [(4, .sl 3 (encK c b)), (6, .sl 1 rulesD), (7, .v v), (8, .v (.int .i64 i)), (29, .sl 1 rulesD), (30, .v (.int .i64 rulesD.length)), (31, .v (.int .i64 j))]) (fun j => [.row v 46 2 (brkTo c b i)]) (fun j => (j ≤ 12) ∧ (brk c i = brkF c i (rt.drop j))) (fun j => 12 - j) (0) ⟨by skip; repeat (first | exact Agree.nil | refine Agree.cons rfl ?_), by skip; repeat (first | exact List.nil_sublist _ | exact List.Sublist.refl _ | apply List.Sublist.cons_cons | apply List.Sublist.cons)⟩ ?_ ?_
      · skip
        exact ⟨by omega, rfl⟩
      intro j
      rintro ⟨j1, j2⟩
      show TC _ _ _ (Env.of [(4, .sl 3 (encK c b)), (6, .sl 1 rulesD), (7, .v v), (8, .v (.int .i64 i)), (29, .sl 1 rulesD), (30, .v (.int .i64 rulesD.length)), (31, .v (.int .i64 j))]) [.row v 46 2 (brkTo c b i)]
      have hrl := rulesD_len
      refine TC.seq ?_; refine TC.region ?_; refine TL.run1 (pure_lss rfl rfl) rfl ?_; refine TL.nil' ?_; refine TC.seq ?_; refine TC.condD rfl (fun hc32 => ?_) (fun hc32 => ?_)
      · try dsimp only at hc32
        have hj12 : j < 12 := by omega
        refine TC.skip' ?_; refine TC.seq ?_; refine TC.block ?_; refine TC.seq ?_
        have hrowr : rulesD[((j : Nat) : Int).toNat]? = some [.fn (rfN (rAt j).which) (rcaps (rAt j))] := rulesD_get j hj12
        refine TC.region ?_; refine TL.run1 (pure_indexAddr Ty.sl72 rfl rfl (by omega) hrowr (List.cons_ne_nil _ _)) rfl ?_; refine TL.run1 (pure_load1 Ty.one74 rfl) rfl ?_; refine TL.run1 (pure_assign rfl) rfl ?_; refine TL.nil' ?_; refine TC.seq ?_; refine TC.region ?_; (iterate 3 refine TL.run1 (pure_move rfl) rfl ?_); refine TL.run1 (pure_callv rfl (rule_spec c b i j hj12 (by omega) hcc) (.cons rfl (.cons rfl .nil)) (rule_call j hj12)) rfl ?_; refine TL.run1 (pure_move rfl) rfl ?_; (iterate 2 refine TL.run1 (pure_extract rfl rfl) rfl ?_); (iterate 2 refine TL.run1 (pure_assign rfl) rfl ?_); refine TL.nil' ?_; (iterate 2 refine TC.seq ?_); refine TC.region ?_; refine TL.run1 (pure_move rfl) rfl ?_; refine TL.run1 (pure_not rfl) rfl ?_; refine TL.nil' ?_; refine TC.condN rfl (fun hc43 => ?_) (fun hc43 => ?_)
        · try dsimp only at hc43
          have hna : ¬ rapP c i (rAt j) := by simpa using hc43
          refine TC.exit ?_; refine then_exit ?_; refine block_here ?_; refine then_normal ?_; refine TC.region ?_; refine TL.run1 (pure_add rfl rfl (mkI64 (by omega) (by omega))) rfl ?_; refine TL.run1 (pure_move rfl) rfl ?_; refine TL.nil ?_; refine loop_next (j + 1) ⟨by ((try dsimp only); rw [show (((j + 1 : Nat)) : Int) = (j : Int) + 1 by omega]; repeat (first | exact Agree.nil | refine Agree.cons rfl ?_)), by repeat (first | exact List.nil_sublist _ | exact List.Sublist.refl _ | apply List.Sublist.cons_cons | apply List.Sublist.cons)⟩ ⟨by omega, by rw [j2, rt_drop c i j (by omega), if_neg hna]⟩ (by omega)
        · try dsimp only at hc43
          have hap : rapP c i (rAt j) := by simpa using hc43
          have hbk : brk c i = (rAt j).kind := by rw [j2, rt_drop c i j hj12, if_pos hap]
          rw [← hbk]
          refine TC.skip' ?_; (iterate 2 refine TC.seq ?_); refine TC.region ?_; refine TL.run1 (pure_move rfl) rfl ?_; refine TL.run1 (pure_neq rfl rfl) rfl ?_; refine TL.nil' ?_; refine TC.condD rfl (fun hc45 => ?_) (fun hc45 => ?_)
          · try dsimp only at hc45
            have hbn : brk c i ≠ 0 := hc45
            have hrow : (encK c b)[((i : Nat) : Int).toNat]? = some [.v (.int .i64 (iAt c ((i : Nat) : Int))), .v (.int .i64 (iAt b ((i : Nat) : Int))), .v (.int .i64 (iAt b ((i + 1 : Nat) : Int)))] := encK_get c b i (by omega)
            have hbt := brkTo_len c b i
            refine TC.region ?_; (iterate 3 refine TL.run1 (pure_move rfl) rfl ?_); refine TL.run1 (pure_indexAddr Ty.sl62 rfl rfl (by omega) hrow (List.cons_ne_nil _ _)) rfl ?_; refine TL.run1 (pure_fieldAddr Ty.f77_2 rfl (.succ (.succ (.zero _))) (List.cons_ne_nil _ _)) rfl ?_; refine TL.run1 (pure_load1 Ty.one3 rfl) rfl ?_; refine TL.run1 (pure_move rfl) rfl ?_; refine TL.run1 (pure_build Ty.pl46 Ty.zero46 (.cons rfl rfl (.one rfl) rfl (.here (.nil _)) (.cons rfl rfl (.one rfl) rfl (.skip (.here (.nil _))) (.nil _)))) rfl ?_; refine TL.run1 (pure_buildSlice (xs := [.tmp 53]) Ty.app39 (by decide) rfl rfl (.cons rfl (.agg _) rfl .nil)) rfl ?_; refine TL.append Ty.app39 rfl rfl (by intro _; repeat (first | exact UpdR.here _ | apply UpdR.there)) (by simp only [List.length_append, List.length_cons, List.length_nil]; omega) (by simp only [List.length_append, List.length_cons, List.length_nil]; omega) rfl (fun v55 hv55 => ?_); refine TL.run1 (pure_assign rfl) rfl ?_; refine TL.nil' ?_; refine TC.exit ?_; refine block_past rfl ?_; refine then_exit ?_; refine loop_exit ?_; refine block_here ?_; refine block_normal ?_; refine then_normal ?_; refine TC.region ?_; refine TL.run1 (pure_move rfl) rfl ?_; refine TL.run1 (pure_add rfl rfl (mkI64 (by omega) (by omega))) rfl ?_; refine TL.run1 (pure_assign rfl) rfl ?_; refine TL.nil ?_
            have hst := brkTo_yes (c := c) (b := b) (i := i) hbn
            refine loop_next (i + 1, v55) ⟨by (dsimp only; rw [show (((i + 1 : Nat)) : Int) = (i : Int) + 1 by omega]; repeat (first | exact Agree.nil | refine Agree.cons rfl ?_)), by dsimp only; rw [hst]; repeat (first | exact List.nil_sublist _ | exact List.Sublist.refl _ | apply List.Sublist.cons_cons | apply List.Sublist.cons)⟩ (show i + 1 ≤ _ by omega) (by dsimp only; omega)
          · try dsimp only at hc45
            have hbn : ¬ brk c i ≠ 0 := hc45
            refine TC.skip' ?_; refine TC.exit ?_; refine block_past rfl ?_; refine then_exit ?_; refine loop_exit ?_; refine block_here ?_; refine block_normal ?_; refine then_normal ?_; refine TC.region ?_; refine TL.run1 (pure_move rfl) rfl ?_; refine TL.run1 (pure_add rfl rfl (mkI64 (by omega) (by omega))) rfl ?_; refine TL.run1 (pure_assign rfl) rfl ?_; refine TL.nil ?_
            have hst := brkTo_no (c := c) (b := b) (i := i) hbn
            refine loop_next (i + 1, v) ⟨by (dsimp only; rw [show (((i + 1 : Nat)) : Int) = (i : Int) + 1 by omega]; repeat (first | exact Agree.nil | refine Agree.cons rfl ?_)), by dsimp only; rw [hst]; repeat (first | exact List.nil_sublist _ | exact List.Sublist.refl _ | apply List.Sublist.cons_cons | apply List.Sublist.cons)⟩ (show i + 1 ≤ _ by omega) (by dsimp only; omega)
      · try dsimp only at hc32
        have hbz : brk c i = 0 := by (rw [j2, List.drop_eq_nil_of_le (by have : rt.length = 12 := rfl; omega)]; rfl)
        have hbn : ¬ brk c i ≠ 0 := fun h => h hbz
        refine TC.exit ?_; refine then_exit ?_; refine loop_exit ?_; refine block_here ?_; refine block_normal ?_; refine then_normal ?_; refine TC.region ?_; refine TL.run1 (pure_move rfl) rfl ?_; refine TL.run1 (pure_add rfl rfl (mkI64 (by omega) (by omega))) rfl ?_; refine TL.run1 (pure_assign rfl) rfl ?_; refine TL.nil ?_
        have hst := brkTo_no (c := c) (b := b) (i := i) hbn
        refine loop_next (i + 1, v) ⟨by (dsimp only; rw [show (((i + 1 : Nat)) : Int) = (i : Int) + 1 by omega]; repeat (first | exact Agree.nil | refine Agree.cons rfl ?_)), by dsimp only; rw [hst]; repeat (first | exact List.nil_sublist _ | exact List.Sublist.refl _ | apply List.Sublist.cons_cons | apply List.Sublist.cons)⟩ (show i + 1 ≤ _ by omega) (by dsimp only; omega)
    · try dsimp only at hc26
      refine TC.exit ?_; refine then_exit ?_; refine loop_exit ?_; refine block_here ?_; refine then_normal ?_; refine TC.seq ?_; refine TC.region ?_; refine TL.run1 (pure_move rfl) rfl ?_; (iterate 2 refine TL.run1 (pure_assign rfl) rfl ?_); refine TL.nil' ?_; refine TC.ret ?_
      have hin : i = c.length - 1 := by omega
      unfold brkV; rw [if_pos hok, hcd, hbd, ← hin]
      exact retF2 (.inl rfl) rfl rfl (.tupL (.cons (.rowS (by repeat (first | exact List.Mem.head _ | apply List.Mem.tail)) (by decide) (brkTo_each _ _ _)) (.cons (.same _) .nil)))
theorem at2_spec (c : List Int) (i : Nat) (hc : c.length ≤ 1000000000 + 1) : Fun Tryd.prog 58 [.sl 1 (encI c), .v (.int .i64 ((i : Int) + 1 - 2))] (.v (.int .i64 (atI c ((i : Int) - 1)))) := by
  rw [show (i : Int) + 1 - 2 = (i : Int) - 1 by omega]; exact at_spec c _ hc
set_option maxHeartbeats 1000000 in
set_option maxRecDepth 100000 in
theorem kind_spec (c : List Int) (i : Nat) (hi : i + 1 < c.length) (hc : c.length ≤ 1000000001) : Fun Tryd.prog 39 [.sl 1 (encI c), .v (.int .i64 ((i : Int) + 1))] (.v (.int .i64 (brk c i))) := by
  refine Fun.enter (n := 97) (rs := [.tmp 4]) Tryd.func39 rfl Tryd.ntmps39 Tryd.results39 rfl (fun w F => ?_)
  have hkl := encI_len c
  have hra : (encI c)[((i : Int) + 1 - 1).toNat]? = some [.v (.int .i64 (iAt c (i : Int)))] := by (rw [show (i : Int) + 1 - 1 = (i : Int) by omega]; exact encI_get c i (by omega) (by omega))
  have hrb : (encI c)[((i : Int) + 1).toNat]? = some [.v (.int .i64 (iAt c ((i : Int) + 1)))] := encI_get c ((i : Int) + 1) (by omega) (by omega)
  refine TC.seq ?_; refine TC.region ?_; refine TL.run1 (pure_assign rfl) rfl ?_; refine TL.nil' ?_; refine TC.seq ?_; refine TC.draw Ty.follows (by kernel_rfl) ?_; (iterate 2 refine TD.run1 (pure_move rfl) rfl ?_); refine TD.run1 (pure_sub rfl rfl (mkI64 (by omega) (by omega))) rfl ?_; refine TD.run1 (pure_indexAddr Ty.sl35 rfl rfl (by omega) hra (List.cons_ne_nil _ _)) rfl ?_; refine TD.run1 (pure_load1 Ty.one3 rfl) rfl ?_; (iterate 2 refine TD.run1 (pure_move rfl) rfl ?_); refine TD.run1 (pure_indexAddr Ty.sl35 rfl rfl (by omega) hrb (List.cons_ne_nil _ _)) rfl ?_; refine TD.run1 (pure_load1 Ty.one3 rfl) rfl ?_; (iterate 2 refine TD.run1 (pure_assign rfl) rfl ?_); refine TD.nil' ?_; refine TC.seq ?_; refine TC.block ?_; refine TC.seq ?_; refine TC.region ?_; refine TL.run1 (pure_move rfl) rfl ?_; refine TL.run1 (pure_eql rfl rfl) rfl ?_; refine TL.run1 (pure_assign rfl) rfl ?_; refine TL.nil' ?_; refine TC.condD rfl (fun hc16 => ?_) (fun hc16 => ?_)
  · try dsimp only at hc16
    refine TC.seq ?_; refine TC.region ?_; refine TL.run1 (pure_assign rfl) rfl ?_; refine TL.nil' ?_; refine TC.ret ?_; refine block_ret ?_; refine then_ret ?_
    exact ret_int rfl (by rw [brk_eq]; unfold brkP; rw [if_pos hc16])
  · try dsimp only at hc16
    refine TC.regionCut [20, 21, 22, 23, 24, 25, 19] 19 (iAt c ((i : Int) + 1) = 1 ∨ iAt c ((i : Int) + 1) = 2) ?_ ?_
    · skip
      refine TL.run1 (pure_move rfl) rfl ?_; refine TL.run1 (pure_eql rfl rfl) rfl ?_; refine TL.run1 (pure_move rfl) rfl ?_; refine TL.splitP 22 rfl (fun hg22 => ?_) (fun hg22 => ?_)
      · try dsimp only at hg22
        (iterate 2 refine TL.passG rfl rfl rfl rfl ?_); refine TL.run1 (pure_pick_true rfl rfl) rfl ?_; refine TL.run1 (pure_assign rfl) rfl ?_; refine TL.cutEnd (by repeat (first | exact Same.refl _ _ | refine Same.put rfl ?_)) rfl ?_
        first | (simp only [decide_eq_true_eq, Bool.false_eq_true, false_iff, true_iff, iff_true, iff_false, Bool.not_eq_true]; omega) | (simp_all; done) | (simp_all; omega) | grind
      · try dsimp only at hg22
        refine TL.runG rfl rfl (pure_move rfl) rfl ?_; refine TL.runG rfl rfl (pure_eql rfl rfl) rfl ?_; refine TL.run1 (pure_pick_false rfl rfl) rfl ?_; refine TL.run1 (pure_assign rfl) rfl ?_; refine TL.cutEnd (by repeat (first | exact Same.refl _ _ | refine Same.put rfl ?_)) rfl ?_
        first | (simp only [decide_eq_true_eq, Bool.false_eq_true, false_iff, true_iff, iff_true, iff_false, Bool.not_eq_true]; omega) | (simp_all; done) | (simp_all; omega) | grind
    refine TC.condD rfl (fun hc19 => ?_) (fun hc19 => ?_)
    · try dsimp only at hc19
      refine TC.seq ?_; refine TC.region ?_; refine TL.run1 (pure_assign rfl) rfl ?_; refine TL.nil' ?_; refine TC.ret ?_; refine block_ret ?_; refine then_ret ?_
      exact ret_int rfl (by rw [brk_eq]; unfold brkP; rw [if_neg hc16, if_pos hc19])
    · try dsimp only at hc19
      refine TC.regionCut [27, 28, 29, 30, 31, 32, 26] 26 (iAt c (i : Int) = 3 ∨ iAt c ((i : Int) + 1) = 3) ?_ ?_
      · skip
        refine TL.run1 (pure_move rfl) rfl ?_; refine TL.run1 (pure_eql rfl rfl) rfl ?_; refine TL.run1 (pure_move rfl) rfl ?_; refine TL.splitP 29 rfl (fun hg29 => ?_) (fun hg29 => ?_)
        · try dsimp only at hg29
          (iterate 2 refine TL.passG rfl rfl rfl rfl ?_); refine TL.run1 (pure_pick_true rfl rfl) rfl ?_; refine TL.run1 (pure_assign rfl) rfl ?_; refine TL.cutEnd (by repeat (first | exact Same.refl _ _ | refine Same.put rfl ?_)) rfl ?_
          first | (simp only [decide_eq_true_eq, Bool.false_eq_true, false_iff, true_iff, iff_true, iff_false, Bool.not_eq_true]; omega) | (simp_all; done) | (simp_all; omega) | grind
        · try dsimp only at hg29
          refine TL.runG rfl rfl (pure_move rfl) rfl ?_; refine TL.runG rfl rfl (pure_eql rfl rfl) rfl ?_; refine TL.run1 (pure_pick_false rfl rfl) rfl ?_; refine TL.run1 (pure_assign rfl) rfl ?_; refine TL.cutEnd (by repeat (first | exact Same.refl _ _ | refine Same.put rfl ?_)) rfl ?_
          first | (simp only [decide_eq_true_eq, Bool.false_eq_true, false_iff, true_iff, iff_true, iff_false, Bool.not_eq_true]; omega) | (simp_all; done) | (simp_all; omega) | grind
      refine TC.condD rfl (fun hc26 => ?_) (fun hc26 => ?_)
      · try dsimp only at hc26
        refine TC.seq ?_; refine TC.region ?_; refine TL.run1 (pure_assign rfl) rfl ?_; refine TL.nil' ?_; refine TC.ret ?_; refine block_ret ?_; refine then_ret ?_
        exact ret_int rfl (by rw [brk_eq]; unfold brkP; rw [if_neg hc16, if_neg hc19, if_pos hc26])
      · try dsimp only at hc26
        refine TC.seq ?_; refine TC.region ?_; refine TL.run1 (pure_move rfl) rfl ?_; refine TL.run1 (pure_eql rfl rfl) rfl ?_; refine TL.run1 (pure_assign rfl) rfl ?_; refine TL.nil' ?_; refine TC.condD rfl (fun hc33 => ?_) (fun hc33 => ?_)
        · try dsimp only at hc33
          refine TC.seq ?_; refine TC.region ?_; refine TL.run1 (pure_assign rfl) rfl ?_; refine TL.nil' ?_; refine TC.ret ?_; refine block_ret ?_; refine then_ret ?_
          exact ret_int rfl (by rw [brk_eq]; unfold brkP; rw [if_neg hc16, if_neg hc19, if_neg hc26, if_pos hc33])
        · try dsimp only at hc33
          refine TC.seq ?_; refine TC.region ?_; refine TL.run1 (pure_move rfl) rfl ?_; refine TL.run1 (pure_eql rfl rfl) rfl ?_; refine TL.run1 (pure_assign rfl) rfl ?_; refine TL.nil' ?_; refine TC.condD rfl (fun hc36 => ?_) (fun hc36 => ?_)
          · try dsimp only at hc36
            refine TC.seq ?_; refine TC.region ?_; refine TL.run1 (pure_assign rfl) rfl ?_; refine TL.nil' ?_; refine TC.ret ?_; refine block_ret ?_; refine then_ret ?_
            exact ret_int rfl (by rw [brk_eq]; unfold brkP; rw [if_neg hc16, if_neg hc19, if_neg hc26, if_neg hc33, if_pos hc36])
          · try dsimp only at hc36
            refine TC.regionCut [40, 41, 42, 43, 44, 45, 46, 47, 48, 49, 50, 51, 52, 53, 54, 55, 56, 57, 58, 59, 60, 61, 62, 63, 64, 65, 39] 39 (iAt c (i : Int) = 8 ∨ iAt c ((i : Int) + 1) = 4 ∨ iAt c ((i : Int) + 1) = 9 ∨ iAt c ((i : Int) + 1) = 10 ∨ iAt c ((i : Int) + 1) = 11 ∨ iAt c ((i : Int) + 1) = 12 ∨ iAt c ((i : Int) + 1) = 13) ?_ ?_
            · skip
              refine TL.run1 (pure_move rfl) rfl ?_; refine TL.run1 (pure_eql rfl rfl) rfl ?_; refine TL.run1 (pure_move rfl) rfl ?_; refine TL.splitP 42 rfl (fun hg42 => ?_) (fun hg42 => ?_)
              · try dsimp only at hg42
                (iterate 2 refine TL.passG rfl rfl rfl rfl ?_); refine TL.run1 (pure_pick_true rfl rfl) rfl ?_; refine TL.run1 (pure_move rfl) rfl ?_; (iterate 2 refine TL.passG rfl rfl rfl rfl ?_); refine TL.run1 (pure_pick_true rfl rfl) rfl ?_; refine TL.run1 (pure_move rfl) rfl ?_; (iterate 2 refine TL.passG rfl rfl rfl rfl ?_); refine TL.run1 (pure_pick_true rfl rfl) rfl ?_; refine TL.run1 (pure_move rfl) rfl ?_; (iterate 2 refine TL.passG rfl rfl rfl rfl ?_); refine TL.run1 (pure_pick_true rfl rfl) rfl ?_; refine TL.run1 (pure_move rfl) rfl ?_; (iterate 2 refine TL.passG rfl rfl rfl rfl ?_); refine TL.run1 (pure_pick_true rfl rfl) rfl ?_; refine TL.run1 (pure_move rfl) rfl ?_; (iterate 2 refine TL.passG rfl rfl rfl rfl ?_); refine TL.run1 (pure_pick_true rfl rfl) rfl ?_; refine TL.run1 (pure_assign rfl) rfl ?_; refine TL.cutEnd (by repeat (first | exact Same.refl _ _ | refine Same.put rfl ?_)) rfl ?_
                first | (simp only [decide_eq_true_eq, Bool.false_eq_true, false_iff, true_iff, iff_true, iff_false, Bool.not_eq_true]; omega) | (simp_all; done) | (simp_all; omega) | grind
              · try dsimp only at hg42
                refine TL.runG rfl rfl (pure_move rfl) rfl ?_; refine TL.runG rfl rfl (pure_eql rfl rfl) rfl ?_; refine TL.run1 (pure_pick_false rfl rfl) rfl ?_; refine TL.run1 (pure_move rfl) rfl ?_; refine TL.splitP 46 rfl (fun hg46 => ?_) (fun hg46 => ?_)
                · try dsimp only at hg46
                  (iterate 2 refine TL.passG rfl rfl rfl rfl ?_); refine TL.run1 (pure_pick_true rfl rfl) rfl ?_; refine TL.run1 (pure_move rfl) rfl ?_; (iterate 2 refine TL.passG rfl rfl rfl rfl ?_); refine TL.run1 (pure_pick_true rfl rfl) rfl ?_; refine TL.run1 (pure_move rfl) rfl ?_; (iterate 2 refine TL.passG rfl rfl rfl rfl ?_); refine TL.run1 (pure_pick_true rfl rfl) rfl ?_; refine TL.run1 (pure_move rfl) rfl ?_; (iterate 2 refine TL.passG rfl rfl rfl rfl ?_); refine TL.run1 (pure_pick_true rfl rfl) rfl ?_; refine TL.run1 (pure_move rfl) rfl ?_; (iterate 2 refine TL.passG rfl rfl rfl rfl ?_); refine TL.run1 (pure_pick_true rfl rfl) rfl ?_; refine TL.run1 (pure_assign rfl) rfl ?_; refine TL.cutEnd (by repeat (first | exact Same.refl _ _ | refine Same.put rfl ?_)) rfl ?_
                  first | (simp only [decide_eq_true_eq, Bool.false_eq_true, false_iff, true_iff, iff_true, iff_false, Bool.not_eq_true]; omega) | (simp_all; done) | (simp_all; omega) | grind
                · try dsimp only at hg46
                  refine TL.runG rfl rfl (pure_move rfl) rfl ?_; refine TL.runG rfl rfl (pure_eql rfl rfl) rfl ?_; refine TL.run1 (pure_pick_false rfl rfl) rfl ?_; refine TL.run1 (pure_move rfl) rfl ?_; refine TL.splitP 50 rfl (fun hg50 => ?_) (fun hg50 => ?_)
                  · try dsimp only at hg50
                    (iterate 2 refine TL.passG rfl rfl rfl rfl ?_); refine TL.run1 (pure_pick_true rfl rfl) rfl ?_; refine TL.run1 (pure_move rfl) rfl ?_; (iterate 2 refine TL.passG rfl rfl rfl rfl ?_); refine TL.run1 (pure_pick_true rfl rfl) rfl ?_; refine TL.run1 (pure_move rfl) rfl ?_; (iterate 2 refine TL.passG rfl rfl rfl rfl ?_); refine TL.run1 (pure_pick_true rfl rfl) rfl ?_; refine TL.run1 (pure_move rfl) rfl ?_; (iterate 2 refine TL.passG rfl rfl rfl rfl ?_); refine TL.run1 (pure_pick_true rfl rfl) rfl ?_; refine TL.run1 (pure_assign rfl) rfl ?_; refine TL.cutEnd (by repeat (first | exact Same.refl _ _ | refine Same.put rfl ?_)) rfl ?_
                    first | (simp only [decide_eq_true_eq, Bool.false_eq_true, false_iff, true_iff, iff_true, iff_false, Bool.not_eq_true]; omega) | (simp_all; done) | (simp_all; omega) | grind
                  · try dsimp only at hg50
                    refine TL.runG rfl rfl (pure_move rfl) rfl ?_; refine TL.runG rfl rfl (pure_eql rfl rfl) rfl ?_; refine TL.run1 (pure_pick_false rfl rfl) rfl ?_; refine TL.run1 (pure_move rfl) rfl ?_; refine TL.splitP 54 rfl (fun hg54 => ?_) (fun hg54 => ?_)
                    · try dsimp only at hg54
                      (iterate 2 refine TL.passG rfl rfl rfl rfl ?_); refine TL.run1 (pure_pick_true rfl rfl) rfl ?_; refine TL.run1 (pure_move rfl) rfl ?_; (iterate 2 refine TL.passG rfl rfl rfl rfl ?_); refine TL.run1 (pure_pick_true rfl rfl) rfl ?_; refine TL.run1 (pure_move rfl) rfl ?_; (iterate 2 refine TL.passG rfl rfl rfl rfl ?_); refine TL.run1 (pure_pick_true rfl rfl) rfl ?_; refine TL.run1 (pure_assign rfl) rfl ?_; refine TL.cutEnd (by repeat (first | exact Same.refl _ _ | refine Same.put rfl ?_)) rfl ?_
                      first | (simp only [decide_eq_true_eq, Bool.false_eq_true, false_iff, true_iff, iff_true, iff_false, Bool.not_eq_true]; omega) | (simp_all; done) | (simp_all; omega) | grind
                    · try dsimp only at hg54
                      refine TL.runG rfl rfl (pure_move rfl) rfl ?_; refine TL.runG rfl rfl (pure_eql rfl rfl) rfl ?_; refine TL.run1 (pure_pick_false rfl rfl) rfl ?_; refine TL.run1 (pure_move rfl) rfl ?_; refine TL.splitP 58 rfl (fun hg58 => ?_) (fun hg58 => ?_)
                      · try dsimp only at hg58
                        (iterate 2 refine TL.passG rfl rfl rfl rfl ?_); refine TL.run1 (pure_pick_true rfl rfl) rfl ?_; refine TL.run1 (pure_move rfl) rfl ?_; (iterate 2 refine TL.passG rfl rfl rfl rfl ?_); refine TL.run1 (pure_pick_true rfl rfl) rfl ?_; refine TL.run1 (pure_assign rfl) rfl ?_; refine TL.cutEnd (by repeat (first | exact Same.refl _ _ | refine Same.put rfl ?_)) rfl ?_
                        first | (simp only [decide_eq_true_eq, Bool.false_eq_true, false_iff, true_iff, iff_true, iff_false, Bool.not_eq_true]; omega) | (simp_all; done) | (simp_all; omega) | grind
                      · try dsimp only at hg58
                        refine TL.runG rfl rfl (pure_move rfl) rfl ?_; refine TL.runG rfl rfl (pure_eql rfl rfl) rfl ?_; refine TL.run1 (pure_pick_false rfl rfl) rfl ?_; refine TL.run1 (pure_move rfl) rfl ?_; refine TL.splitP 62 rfl (fun hg62 => ?_) (fun hg62 => ?_)
                        · try dsimp only at hg62
                          (iterate 2 refine TL.passG rfl rfl rfl rfl ?_); refine TL.run1 (pure_pick_true rfl rfl) rfl ?_; refine TL.run1 (pure_assign rfl) rfl ?_; refine TL.cutEnd (by repeat (first | exact Same.refl _ _ | refine Same.put rfl ?_)) rfl ?_
                          first | (simp only [decide_eq_true_eq, Bool.false_eq_true, false_iff, true_iff, iff_true, iff_false, Bool.not_eq_true]; omega) | (simp_all; done) | (simp_all; omega) | grind
                        · try dsimp only at hg62
                          refine TL.runG rfl rfl (pure_move rfl) rfl ?_; refine TL.runG rfl rfl (pure_eql rfl rfl) rfl ?_; refine TL.run1 (pure_pick_false rfl rfl) rfl ?_; refine TL.run1 (pure_assign rfl) rfl ?_; refine TL.cutEnd (by repeat (first | exact Same.refl _ _ | refine Same.put rfl ?_)) rfl ?_
                          first | (simp only [decide_eq_true_eq, Bool.false_eq_true, false_iff, true_iff, iff_true, iff_false, Bool.not_eq_true]; omega) | (simp_all; done) | (simp_all; omega) | grind
            refine TC.condD rfl (fun hc39 => ?_) (fun hc39 => ?_)
            · try dsimp only at hc39
              refine TC.seq ?_; refine TC.region ?_; refine TL.run1 (pure_assign rfl) rfl ?_; refine TL.nil' ?_; refine TC.ret ?_; refine block_ret ?_; refine then_ret ?_
              exact ret_int rfl (by rw [brk_eq]; unfold brkP; rw [if_neg hc16, if_neg hc19, if_neg hc26, if_neg hc33, if_neg hc36, if_pos hc39])
            · try dsimp only at hc39
              refine TC.seq ?_; refine TC.region ?_; refine TL.run1 (pure_move rfl) rfl ?_; refine TL.run1 (pure_eql rfl rfl) rfl ?_; refine TL.run1 (pure_assign rfl) rfl ?_; refine TL.nil' ?_; refine TC.condD rfl (fun hc66 => ?_) (fun hc66 => ?_)
              · try dsimp only at hc66
                refine TC.seq ?_; refine TC.region ?_; refine TL.run1 (pure_assign rfl) rfl ?_; refine TL.nil' ?_; refine TC.ret ?_; refine block_ret ?_; refine then_ret ?_
                exact ret_int rfl (by rw [brk_eq]; unfold brkP; rw [if_neg hc16, if_neg hc19, if_neg hc26, if_neg hc33, if_neg hc36, if_neg hc39, if_pos hc66])
              · try dsimp only at hc66
                refine TC.regionCut [70, 71, 72, 73, 74, 75, 76, 77, 78, 79, 80, 81, 82, 83, 84, 85, 86, 87, 88, 89, 69] 69 (SpP c i) ?_ ?_
                · skip
                  refine TL.run1 (pure_move rfl) rfl ?_; refine TL.run1 (pure_eql rfl rfl) rfl ?_; refine TL.run1 (pure_move rfl) rfl ?_; refine TL.splitP 72 rfl (fun hg72 => ?_) (fun hg72 => ?_)
                  · try dsimp only at hg72
                    refine TL.runG rfl rfl (pure_move rfl) rfl ?_; refine TL.runG rfl rfl (pure_eql rfl rfl) rfl ?_; refine TL.run1 (pure_pick_true rfl rfl) rfl ?_; refine TL.run1 (pure_move rfl) rfl ?_; refine TL.splitP 76 rfl (fun hg76 => ?_) (fun hg76 => ?_)
                    · try dsimp only at hg76
                      (iterate 2 refine TL.runG rfl rfl (pure_move rfl) rfl ?_); refine TL.runG rfl rfl (pure_sub rfl rfl (mkI64 (by omega) (by omega))) rfl ?_; refine TL.runG rfl rfl (pure_call (at2_spec c i (by omega)) (.cons rfl (.cons rfl .nil)) Tryd.call58) rfl ?_; refine TL.runG rfl rfl (pure_eql rfl rfl) rfl ?_; refine TL.runG rfl rfl (pure_move rfl) rfl ?_; refine TL.splitP 82 rfl (fun hg82 => ?_) (fun hg82 => ?_)
                      · try dsimp only at hg82
                        (iterate 5 refine TL.passG rfl rfl rfl rfl ?_); refine TL.runG rfl rfl (pure_pick_true rfl rfl) rfl ?_; refine TL.run1 (pure_pick_true rfl rfl) rfl ?_; refine TL.run1 (pure_assign rfl) rfl ?_; refine TL.cutEnd (by repeat (first | exact Same.refl _ _ | refine Same.put rfl ?_)) rfl ?_
                        first | (simp only [SpP, decide_eq_true_eq, Bool.false_eq_true, false_iff, true_iff, iff_true, iff_false, Bool.not_eq_true]; omega) | grind [SpP]
                      · try dsimp only at hg82
                        (iterate 2 refine TL.runG rfl rfl (pure_move rfl) rfl ?_); refine TL.runG rfl rfl (pure_sub rfl rfl (mkI64 (by omega) (by omega))) rfl ?_; refine TL.runG rfl rfl (pure_call (at2_spec c i (by omega)) (.cons rfl (.cons rfl .nil)) Tryd.call58) rfl ?_; refine TL.runG rfl rfl (pure_eql rfl rfl) rfl ?_; refine TL.runG rfl rfl (pure_pick_false rfl rfl) rfl ?_; refine TL.run1 (pure_pick_true rfl rfl) rfl ?_; refine TL.run1 (pure_assign rfl) rfl ?_; refine TL.cutEnd (by repeat (first | exact Same.refl _ _ | refine Same.put rfl ?_)) rfl ?_
                        first | (simp only [SpP, decide_eq_true_eq, Bool.false_eq_true, false_iff, true_iff, iff_true, iff_false, Bool.not_eq_true]; omega) | grind [SpP]
                    · try dsimp only at hg76
                      (iterate 12 refine TL.passG rfl rfl rfl rfl ?_); refine TL.run1 (pure_pick_false rfl rfl) rfl ?_; refine TL.run1 (pure_assign rfl) rfl ?_; refine TL.cutEnd (by repeat (first | exact Same.refl _ _ | refine Same.put rfl ?_)) rfl ?_
                      first | (simp only [SpP, decide_eq_true_eq, Bool.false_eq_true, false_iff, true_iff, iff_true, iff_false, Bool.not_eq_true]; omega) | grind [SpP]
                  · try dsimp only at hg72
                    (iterate 2 refine TL.passG rfl rfl rfl rfl ?_); refine TL.run1 (pure_pick_false rfl rfl) rfl ?_; refine TL.run1 (pure_move rfl) rfl ?_; (iterate 12 refine TL.passG rfl rfl rfl rfl ?_); refine TL.run1 (pure_pick_false rfl rfl) rfl ?_; refine TL.run1 (pure_assign rfl) rfl ?_; refine TL.cutEnd (by repeat (first | exact Same.refl _ _ | refine Same.put rfl ?_)) rfl ?_
                    first | (simp only [SpP, decide_eq_true_eq, Bool.false_eq_true, false_iff, true_iff, iff_true, iff_false, Bool.not_eq_true]; omega) | grind [SpP]
                refine TC.condD rfl (fun hc69 => ?_) (fun hc69 => ?_)
                · try dsimp only at hc69
                  refine TC.seq ?_; refine TC.region ?_; refine TL.run1 (pure_assign rfl) rfl ?_; refine TL.nil' ?_; refine TC.ret ?_; refine block_ret ?_; refine then_ret ?_
                  exact ret_int rfl (by rw [brk_eq]; unfold brkP; rw [if_neg hc16, if_neg hc19, if_neg hc26, if_neg hc33, if_neg hc36, if_neg hc39, if_neg hc66, if_pos hc69])
                · try dsimp only at hc69
                  refine TC.regionCut [91, 92, 93, 94, 95, 96, 90] 90 (iAt c (i : Int) = 7 ∨ iAt c ((i : Int) + 1) = 7) ?_ ?_
                  · skip
                    refine TL.run1 (pure_move rfl) rfl ?_; refine TL.run1 (pure_eql rfl rfl) rfl ?_; refine TL.run1 (pure_move rfl) rfl ?_; refine TL.splitP 93 rfl (fun hg93 => ?_) (fun hg93 => ?_)
                    · try dsimp only at hg93
                      (iterate 2 refine TL.passG rfl rfl rfl rfl ?_); refine TL.run1 (pure_pick_true rfl rfl) rfl ?_; refine TL.run1 (pure_assign rfl) rfl ?_; refine TL.cutEnd (by repeat (first | exact Same.refl _ _ | refine Same.put rfl ?_)) rfl ?_
                      first | (simp only [decide_eq_true_eq, Bool.false_eq_true, false_iff, true_iff, iff_true, iff_false, Bool.not_eq_true]; omega) | (simp_all; done) | (simp_all; omega) | grind
                    · try dsimp only at hg93
                      refine TL.runG rfl rfl (pure_move rfl) rfl ?_; refine TL.runG rfl rfl (pure_eql rfl rfl) rfl ?_; refine TL.run1 (pure_pick_false rfl rfl) rfl ?_; refine TL.run1 (pure_assign rfl) rfl ?_; refine TL.cutEnd (by repeat (first | exact Same.refl _ _ | refine Same.put rfl ?_)) rfl ?_
                      first | (simp only [decide_eq_true_eq, Bool.false_eq_true, false_iff, true_iff, iff_true, iff_false, Bool.not_eq_true]; omega) | (simp_all; done) | (simp_all; omega) | grind
                  refine TC.condD rfl (fun hc90 => ?_) (fun hc90 => ?_)
                  · try dsimp only at hc90
                    refine TC.seq ?_; refine TC.region ?_; refine TL.run1 (pure_assign rfl) rfl ?_; refine TL.nil' ?_; refine TC.ret ?_; refine block_ret ?_; refine then_ret ?_
                    exact ret_int rfl (by rw [brk_eq]; unfold brkP; rw [if_neg hc16, if_neg hc19, if_neg hc26, if_neg hc33, if_neg hc36, if_neg hc39, if_neg hc66, if_neg hc69, if_pos hc90])
                  · try dsimp only at hc90
                    refine TC.skip ?_; refine block_normal ?_; refine then_normal ?_; refine TC.seq ?_; refine TC.region ?_; refine TL.run1 (pure_assign rfl) rfl ?_; refine TL.nil' ?_; refine TC.ret ?_
                    exact ret_int rfl (by rw [brk_eq]; unfold brkP; rw [if_neg hc16, if_neg hc19, if_neg hc26, if_neg hc33, if_neg hc36, if_neg hc39, if_neg hc66, if_neg hc69, if_neg hc90])
set_option maxRecDepth 100000 in
theorem R3Breaks_spec (s : ByteArray) (hs : s.size ≤ 500000000) : Fun Tryd.prog 19 [.v (.string s)] (.tup [.sl 2 (brkV s), .v (.bool (okS s))]) := by
  refine Fun.enterF (n := 39) (rs := [.tmp 2, .tmp 3]) Tryd.func19 rfl Tryd.ntmps19 Tryd.results19 rfl (fun w F => ?_); refine TC.seq ?_; refine TC.region ?_; (iterate 2 refine TL.run1 (pure_assign rfl) rfl ?_); refine TL.nil' ?_; refine TC.seq ?_; refine TC.region ?_; refine TL.run1 (pure_move rfl) rfl ?_; refine TL.run1 (pure_call (R3clusters_spec s (by omega)) (.cons rfl .nil) Tryd.call33) rfl ?_; refine TL.run1 (pure_move rfl) rfl ?_; (iterate 3 refine TL.run1 (pure_extract rfl rfl) rfl ?_); (iterate 3 refine TL.run1 (pure_assign rfl) rfl ?_); refine TL.nil' ?_; (iterate 2 refine TC.seq ?_); refine TC.region ?_; refine TL.run1 (pure_move rfl) rfl ?_; refine TL.run1 (pure_not rfl) rfl ?_; refine TL.nil' ?_; refine TC.condN rfl (fun hc17 => ?_) (fun hc17 => ?_)
  · try dsimp only at hc17
    have hok : okS s = false := decide_eq_false hc17
    refine TC.seq ?_; refine TC.nilrow 47 2 ?_; refine TC.region ?_; (iterate 2 refine TL.run1 (pure_assign rfl) rfl ?_); refine TL.nil' ?_; refine TC.ret ?_; refine then_ret ?_
    unfold brkV; rw [hok]
    exact retF2 (.inl rfl) rfl rfl (.tupL (.cons (.rowS (v := .slice none 0 0) (e := 47) (xs := []) (by repeat (first | exact List.Mem.head _ | apply List.Mem.tail)) (by decide) (by simp)) (.cons (.same _) .nil)))
  · try dsimp only at hc17
    have hok : okS s = true := decide_eq_true hc17
    have e1 : bndR s = (bnds (cls s)) := by unfold bndR; rw [if_pos hok]
    have e2 : scR s = scL s := by unfold scR; rw [if_pos hok]
    rw [e1, e2]
    refine TC.nilrow 47 2 ?_
    have hcl := cAll_len_le (cls s)
    rw [cls_len] at hcl
    have hnl := nR_le s
    have hsl := scL_len s
    have hbl0 : (bnds (cls s)).length = (cAll (cls s)).length + 1 := ends_len _
    obtain ⟨c, hcd⟩ : ∃ c, scL s = c := ⟨_, rfl⟩
    obtain ⟨b, hbd⟩ : ∃ b, (bnds (cls s)) = b := ⟨_, rfl⟩
    rw [hcd, hbd]
    rw [hcd] at hsl
    rw [hbd] at hbl0
    have hbl : b.length = c.length + 1 := by omega
    have hcc : c.length ≤ 1000000001 := by omega
    have hkc := encI_len c
    refine TC.skip' ?_; refine TC.seq ?_; refine TC.region ?_; refine TL.run1 (pure_assign rfl) rfl ?_; refine TL.nil' ?_; (iterate 2 refine TC.seq ?_); refine TC.region ?_; refine TL.run1 (pure_assign rfl) rfl ?_; refine TL.nil' ?_; refine TC.block ?_; refine TC.loopX (X := Nat × Value) (fun (i, v) => [(4, .sl 1 (encI b)), (5, .sl 1 (encI c)), (7, .v v), (8, .v (.int .i64 ((i : Int) + 1)))]) (fun (i, v) => [.row v 47 2 (brkTo c b i)]) (fun (i, v) => (i ≤ c.length - 1)) (fun (i, v) => c.length - i) (0, .slice none 0 0) ⟨by skip; repeat (first | exact Agree.nil | refine Agree.cons rfl ?_), by skip; repeat (first | exact List.nil_sublist _ | exact List.Sublist.refl _ | apply List.Sublist.cons_cons | apply List.Sublist.cons)⟩ ?_ ?_
    · skip
      exact Nat.zero_le _
    rintro ⟨i, v⟩
    intro h1
    show TC _ _ _ (Env.of [(4, .sl 1 (encI b)), (5, .sl 1 (encI c)), (7, .v v), (8, .v (.int .i64 ((i : Int) + 1)))]) [.row v 47 2 (brkTo c b i)]
    have hkc := encI_len c
    have hkb := encI_len b
    (iterate 2 refine TC.seq ?_); refine TC.region ?_; (iterate 2 refine TL.run1 (pure_move rfl) rfl ?_); refine TL.run1 (pure_len Ty.sl35 rfl) rfl ?_; refine TL.run1 (pure_lss rfl rfl) rfl ?_; refine TL.nil' ?_; refine TC.condD rfl (fun hc21 => ?_) (fun hc21 => ?_)
    · try dsimp only at hc21
      refine TC.skip' ?_; refine TC.seq ?_; refine TC.block ?_; refine TC.seq ?_
      have hbr := brk_range c i
      refine TC.region ?_; (iterate 2 refine TL.run1 (pure_move rfl) rfl ?_); refine TL.run1 (pure_call (kind_spec c i (by omega) hcc) (.cons rfl (.cons rfl .nil)) Tryd.call39) rfl ?_; refine TL.run1 (pure_assign rfl) rfl ?_; refine TL.nil' ?_; refine TC.seq ?_; refine TC.region ?_; refine TL.run1 (pure_move rfl) rfl ?_; refine TL.run1 (pure_gtr rfl rfl) rfl ?_; refine TL.nil' ?_; refine TC.condD rfl (fun hc28 => ?_) (fun hc28 => ?_)
      · try dsimp only at hc28
        have hbn : brk c i ≠ 0 := by omega
        have hrow : (encI b)[((i : Int) + 1).toNat]? = some [.v (.int .i64 (iAt b ((i : Int) + 1)))] := encI_get b _ (by omega) (by omega)
        have hbt := brkTo_len c b i
        refine TC.region ?_; (iterate 3 refine TL.run1 (pure_move rfl) rfl ?_); refine TL.run1 (pure_indexAddr Ty.sl35 rfl rfl (by omega) hrow (List.cons_ne_nil _ _)) rfl ?_; refine TL.run1 (pure_load1 Ty.one3 rfl) rfl ?_; refine TL.run1 (pure_move rfl) rfl ?_; refine TL.run1 (pure_build Ty.pl47 Ty.zero47 (.cons rfl rfl (.one rfl) rfl (.here (.nil _)) (.cons rfl rfl (.one rfl) rfl (.skip (.here (.nil _))) (.nil _)))) rfl ?_; refine TL.run1 (pure_buildSlice (xs := [.tmp 35]) Ty.app42 (by decide) rfl rfl (.cons rfl (.agg _) rfl .nil)) rfl ?_; refine TL.append Ty.app42 rfl rfl (by intro _; repeat (first | exact UpdR.here _ | apply UpdR.there)) (by simp only [List.length_append, List.length_cons, List.length_nil]; omega) (by simp only [List.length_append, List.length_cons, List.length_nil]; omega) rfl (fun v37 hv37 => ?_); refine TL.run1 (pure_assign rfl) rfl ?_; refine TL.nil ?_; refine block_normal ?_; refine then_normal ?_; refine TC.region ?_; refine TL.run1 (pure_move rfl) rfl ?_; refine TL.run1 (pure_add rfl rfl (mkI64 (by omega) (by omega))) rfl ?_; refine TL.run1 (pure_assign rfl) rfl ?_; refine TL.nil ?_
        have hst := brkTo_yes (c := c) (b := b) (i := i) hbn
        refine loop_next (i + 1, v37) ⟨by (dsimp only; rw [show (((i + 1 : Nat)) : Int) = (i : Int) + 1 by omega]; repeat (first | exact Agree.nil | refine Agree.cons rfl ?_)), by dsimp only; rw [hst, show (((i + 1 : Nat)) : Int) = (i : Int) + 1 by omega]; repeat (first | exact List.nil_sublist _ | exact List.Sublist.refl _ | apply List.Sublist.cons_cons | apply List.Sublist.cons)⟩ (show i + 1 ≤ _ by omega) (by dsimp only; omega)
      · try dsimp only at hc28
        have hbn : ¬ brk c i ≠ 0 := by omega
        refine TC.skip ?_; refine block_normal ?_; refine then_normal ?_; refine TC.region ?_; refine TL.run1 (pure_move rfl) rfl ?_; refine TL.run1 (pure_add rfl rfl (mkI64 (by omega) (by omega))) rfl ?_; refine TL.run1 (pure_assign rfl) rfl ?_; refine TL.nil ?_
        have hst := brkTo_no (c := c) (b := b) (i := i) hbn
        refine loop_next (i + 1, v) ⟨by (dsimp only; rw [show (((i + 1 : Nat)) : Int) = (i : Int) + 1 by omega]; repeat (first | exact Agree.nil | refine Agree.cons rfl ?_)), by dsimp only; rw [hst]; repeat (first | exact List.nil_sublist _ | exact List.Sublist.refl _ | apply List.Sublist.cons_cons | apply List.Sublist.cons)⟩ (show i + 1 ≤ _ by omega) (by dsimp only; omega)
    · try dsimp only at hc21
      refine TC.exit ?_; refine then_exit ?_; refine loop_exit ?_; refine block_here ?_; refine then_normal ?_; refine TC.seq ?_; refine TC.region ?_; refine TL.run1 (pure_move rfl) rfl ?_; (iterate 2 refine TL.run1 (pure_assign rfl) rfl ?_); refine TL.nil' ?_; refine TC.ret ?_
      have hin : i = c.length - 1 := by omega
      unfold brkV; rw [hok, if_pos rfl, hcd, hbd, ← hin]
      exact retF2 (.inl rfl) rfl rfl (.tupL (.cons (.rowS (by repeat (first | exact List.Mem.head _ | apply List.Mem.tail)) (by decide) (brkTo_each _ _ _)) (.cons (.same _) .nil)))
end Go.Ob
