import Derived.Test.YtcfnfioefbkamaaDoorM
set_option linter.unusedVariables false
set_option linter.unusedSimpArgs false
namespace Go.Ob
open Go.Proofs
set_option maxRecDepth 100000 in
theorem shape_spec (b : Int) (hb0 : 0 ≤ b) (hb1 : b < 256) : Fun Tryd.prog 35 [.v (.int .u8 b)] (.tup [.v (.int .i64 (shN b)), .v (.int .i64 (shB b))]) := by
  refine Fun.enter (n := 39) (rs := [.tmp 2, .tmp 3]) Tryd.func35 rfl Tryd.ntmps35 Tryd.results35 rfl (fun w F => ?_); refine TC.seq ?_; refine TC.region ?_; (iterate 2 refine TL.run1 (pure_assign rfl) rfl ?_); refine TL.nil' ?_; refine TC.seq ?_; refine TC.block ?_; refine TC.seq ?_; refine TC.region ?_; refine TL.run1 (pure_move rfl) rfl ?_; refine TL.run1 (pure_lss rfl rfl) rfl ?_; refine TL.run1 (pure_assign rfl) rfl ?_; refine TL.nil' ?_; refine TC.condD rfl (fun hc4 => ?_) (fun hc4 => ?_)
  · try dsimp only at hc4
    refine TC.seq ?_; refine TC.region ?_; refine TL.run1 (pure_move rfl) rfl ?_; refine TL.run1 (pure_conv Tryd.underlying5 Tryd.underlying3 rfl (fit_i64 (by omega) (by omega))) rfl ?_; (iterate 2 refine TL.run1 (pure_assign rfl) rfl ?_); refine TL.nil' ?_; refine TC.ret ?_; refine block_ret ?_; refine then_ret ?_
    exact ret2 (.inl rfl) rfl rfl (by unfold shN shB; simp only [if_pos hc4])
  · try dsimp only at hc4
    refine TC.regionCut [10, 11, 12, 13, 14, 15, 9] 9 (194 ≤ b ∧ b ≤ 223) ?_ ?_
    · skip
      refine TL.run1 (pure_move rfl) rfl ?_; refine TL.run1 (pure_geq rfl rfl) rfl ?_; refine TL.run1 (pure_move rfl) rfl ?_; refine TL.splitP 12 rfl (fun hg12 => ?_) (fun hg12 => ?_)
      · try dsimp only at hg12
        refine TL.runG rfl rfl (pure_move rfl) rfl ?_; refine TL.runG rfl rfl (pure_leq rfl rfl) rfl ?_; refine TL.run1 (pure_pick_true rfl rfl) rfl ?_; refine TL.run1 (pure_assign rfl) rfl ?_; refine TL.cutEnd (by repeat (first | exact Same.refl _ _ | refine Same.put rfl ?_)) rfl ?_
        first | (simp only [decide_eq_true_eq, Bool.false_eq_true, false_iff, true_iff, iff_true, iff_false, Bool.not_eq_true]; omega) | (simp_all; done) | (simp_all; omega) | grind
      · try dsimp only at hg12
        (iterate 2 refine TL.passG rfl rfl rfl rfl ?_); refine TL.run1 (pure_pick_false rfl rfl) rfl ?_; refine TL.run1 (pure_assign rfl) rfl ?_; refine TL.cutEnd (by repeat (first | exact Same.refl _ _ | refine Same.put rfl ?_)) rfl ?_
        first | (simp only [decide_eq_true_eq, Bool.false_eq_true, false_iff, true_iff, iff_true, iff_false, Bool.not_eq_true]; omega) | (simp_all; done) | (simp_all; omega) | grind
    refine TC.condD rfl (fun hc9 => ?_) (fun hc9 => ?_)
    · try dsimp only at hc9
      refine TC.seq ?_; refine TC.region ?_; refine TL.run1 (pure_move rfl) rfl ?_; refine TL.run1 (pure_conv Tryd.underlying5 Tryd.underlying3 rfl (fit_i64 (by omega) (by omega))) rfl ?_; refine TL.run1 (pure_sub rfl rfl (mkI64 (by omega) (by omega))) rfl ?_; (iterate 2 refine TL.run1 (pure_assign rfl) rfl ?_); refine TL.nil' ?_; refine TC.ret ?_; refine block_ret ?_; refine then_ret ?_
      exact ret2 (.inl rfl) rfl rfl (by unfold shN shB; simp only [if_neg hc4, if_pos hc9])
    · try dsimp only at hc9
      refine TC.regionCut [20, 21, 22, 23, 24, 25, 19] 19 (224 ≤ b ∧ b ≤ 239) ?_ ?_
      · skip
        refine TL.run1 (pure_move rfl) rfl ?_; refine TL.run1 (pure_geq rfl rfl) rfl ?_; refine TL.run1 (pure_move rfl) rfl ?_; refine TL.splitP 22 rfl (fun hg22 => ?_) (fun hg22 => ?_)
        · try dsimp only at hg22
          refine TL.runG rfl rfl (pure_move rfl) rfl ?_; refine TL.runG rfl rfl (pure_leq rfl rfl) rfl ?_; refine TL.run1 (pure_pick_true rfl rfl) rfl ?_; refine TL.run1 (pure_assign rfl) rfl ?_; refine TL.cutEnd (by repeat (first | exact Same.refl _ _ | refine Same.put rfl ?_)) rfl ?_
          first | (simp only [decide_eq_true_eq, Bool.false_eq_true, false_iff, true_iff, iff_true, iff_false, Bool.not_eq_true]; omega) | (simp_all; done) | (simp_all; omega) | grind
        · try dsimp only at hg22
          (iterate 2 refine TL.passG rfl rfl rfl rfl ?_); refine TL.run1 (pure_pick_false rfl rfl) rfl ?_; refine TL.run1 (pure_assign rfl) rfl ?_; refine TL.cutEnd (by repeat (first | exact Same.refl _ _ | refine Same.put rfl ?_)) rfl ?_
          first | (simp only [decide_eq_true_eq, Bool.false_eq_true, false_iff, true_iff, iff_true, iff_false, Bool.not_eq_true]; omega) | (simp_all; done) | (simp_all; omega) | grind
      refine TC.condD rfl (fun hc19 => ?_) (fun hc19 => ?_)
      · try dsimp only at hc19
        refine TC.seq ?_; refine TC.region ?_; refine TL.run1 (pure_move rfl) rfl ?_; refine TL.run1 (pure_conv Tryd.underlying5 Tryd.underlying3 rfl (fit_i64 (by omega) (by omega))) rfl ?_; refine TL.run1 (pure_sub rfl rfl (mkI64 (by omega) (by omega))) rfl ?_; (iterate 2 refine TL.run1 (pure_assign rfl) rfl ?_); refine TL.nil' ?_; refine TC.ret ?_; refine block_ret ?_; refine then_ret ?_
        exact ret2 (.inl rfl) rfl rfl (by unfold shN shB; simp only [if_neg hc4, if_neg hc9, if_pos hc19])
      · try dsimp only at hc19
        refine TC.regionCut [30, 31, 32, 33, 34, 35, 29] 29 (240 ≤ b ∧ b ≤ 244) ?_ ?_
        · skip
          refine TL.run1 (pure_move rfl) rfl ?_; refine TL.run1 (pure_geq rfl rfl) rfl ?_; refine TL.run1 (pure_move rfl) rfl ?_; refine TL.splitP 32 rfl (fun hg32 => ?_) (fun hg32 => ?_)
          · try dsimp only at hg32
            refine TL.runG rfl rfl (pure_move rfl) rfl ?_; refine TL.runG rfl rfl (pure_leq rfl rfl) rfl ?_; refine TL.run1 (pure_pick_true rfl rfl) rfl ?_; refine TL.run1 (pure_assign rfl) rfl ?_; refine TL.cutEnd (by repeat (first | exact Same.refl _ _ | refine Same.put rfl ?_)) rfl ?_
            first | (simp only [decide_eq_true_eq, Bool.false_eq_true, false_iff, true_iff, iff_true, iff_false, Bool.not_eq_true]; omega) | (simp_all; done) | (simp_all; omega) | grind
          · try dsimp only at hg32
            (iterate 2 refine TL.passG rfl rfl rfl rfl ?_); refine TL.run1 (pure_pick_false rfl rfl) rfl ?_; refine TL.run1 (pure_assign rfl) rfl ?_; refine TL.cutEnd (by repeat (first | exact Same.refl _ _ | refine Same.put rfl ?_)) rfl ?_
            first | (simp only [decide_eq_true_eq, Bool.false_eq_true, false_iff, true_iff, iff_true, iff_false, Bool.not_eq_true]; omega) | (simp_all; done) | (simp_all; omega) | grind
        refine TC.condD rfl (fun hc29 => ?_) (fun hc29 => ?_)
        · try dsimp only at hc29
          refine TC.seq ?_; refine TC.region ?_; refine TL.run1 (pure_move rfl) rfl ?_; refine TL.run1 (pure_conv Tryd.underlying5 Tryd.underlying3 rfl (fit_i64 (by omega) (by omega))) rfl ?_; refine TL.run1 (pure_sub rfl rfl (mkI64 (by omega) (by omega))) rfl ?_; (iterate 2 refine TL.run1 (pure_assign rfl) rfl ?_); refine TL.nil' ?_; refine TC.ret ?_; refine block_ret ?_; refine then_ret ?_
          exact ret2 (.inl rfl) rfl rfl (by unfold shN shB; simp only [if_neg hc4, if_neg hc9, if_neg hc19, if_pos hc29])
        · try dsimp only at hc29
          refine TC.skip ?_; refine block_normal ?_; refine then_normal ?_; refine TC.seq ?_; refine TC.region ?_; (iterate 2 refine TL.run1 (pure_assign rfl) rfl ?_); refine TL.nil' ?_; refine TC.ret ?_
          exact ret2 (.inl rfl) rfl rfl (by unfold shN shB; simp only [if_neg hc4, if_neg hc9, if_neg hc19, if_neg hc29])
def ptsV (s : ByteArray) : List Int := if okS s = true then pts s else []
def offsV (s : ByteArray) : List Int := if okS s = true then offs s else []
set_option maxRecDepth 100000 in
theorem Points_spec (s : ByteArray) (hs : s.size ≤ 1000000000) : Fun Tryd.prog 16 [.v (.string s)] (.tup [.sl 1 (encI (ptsV s)), .sl 1 (encI (offsV s)), .v (.bool (okS s))]) := by
  refine Fun.enterF (n := 86) (rs := [.tmp 2, .tmp 3, .tmp 4]) Tryd.func16 rfl Tryd.ntmps16 Tryd.results16 rfl (fun w F => ?_); refine TC.seq ?_; refine TC.region ?_; (iterate 3 refine TL.run1 (pure_assign rfl) rfl ?_); refine TL.nil' ?_; refine TC.seq ?_; refine TC.region ?_; refine TL.run1 (pure_buildSlice (xs := [.const (.int .i64 0), .const (.int .i64 0), .const (.int .i64 128), .const (.int .i64 2048), .const (.int .i64 65536)]) Ty.app35 (by decide) rfl rfl (.cons rfl (.one rfl) rfl (.cons rfl (.one rfl) rfl (.cons rfl (.one rfl) rfl (.cons rfl (.one rfl) rfl (.cons rfl (.one rfl) rfl .nil)))))) rfl ?_; refine TL.run1 (pure_assign rfl) rfl ?_; refine TL.nil' ?_; (iterate 2 refine TC.seq ?_); (iterate 2 refine TC.nilrow 3 1 ?_); refine TC.region ?_; refine TL.run1 (pure_assign rfl) rfl ?_; refine TL.nil' ?_; refine TC.block ?_; refine TC.loopX (X := Nat × Value × Value) (fun (k, v, v2) => [(0, .v (.string s)), (2, .v v), (3, .v v2), (5, .sl 1 (encI leastL)), (6, .v (.int .i64 (rpos s k : Int)))]) (fun (k, v, v2) => [.row v 3 1 (encI (ptsTo s k)), .row v2 3 1 (encI (offsTo s k))]) (fun (k, v, v2) => (rpos s k ≤ s.size) ∧ (∀ j, j < k → ¬ BadAt s (rpos s j))) (fun (k, v, v2) => s.size - rpos s k) (0, .slice none 0 0, .slice none 0 0) ⟨by skip; repeat (first | exact Agree.nil | refine Agree.cons rfl ?_), by skip; repeat (first | exact List.nil_sublist _ | exact List.Sublist.refl _ | apply List.Sublist.cons_cons | apply List.Sublist.cons)⟩ ?_ ?_
  · skip
    exact ⟨Nat.zero_le _, fun j hj => by omega⟩
  rintro ⟨k, v, v2⟩
  rintro ⟨h0, h1⟩
  show TC _ _ _ (Env.of [(0, .v (.string s)), (2, .v v), (3, .v v2), (5, .sl 1 (encI leastL)), (6, .v (.int .i64 (rpos s k : Int)))]) [.row v 3 1 (encI (ptsTo s k)), .row v2 3 1 (encI (offsTo s k))]
  (iterate 2 refine TC.seq ?_); refine TC.region ?_; (iterate 2 refine TL.run1 (pure_move rfl) rfl ?_); refine TL.run1 (pure_len_str Tryd.underlying9 rfl) rfl ?_; refine TL.run1 (pure_lss rfl rfl) rfl ?_; refine TL.nil' ?_; refine TC.condD rfl (fun hc15 => ?_) (fun hc15 => ?_)
  · try dsimp only at hc15
    refine TC.skip' ?_; refine TC.block ?_; refine TC.seq ?_
    have hlt : rpos s k < s.size := by omega
    have hb0 := byt_lt s (rpos s k)
    have hsn := shN_cases (byt s (rpos s k) : Int)
    refine TC.region ?_; (iterate 2 refine TL.run1 (pure_move rfl) rfl ?_); refine TL.run1 (pure_index_byt Tryd.underlying9 rfl rfl (by first | rfl | omega) (by omega)) rfl ?_; refine TL.run1 (pure_call (shape_spec _ (by omega) (by omega)) (.cons rfl .nil) Tryd.call35) rfl ?_; refine TL.run1 (pure_move rfl) rfl ?_; (iterate 2 refine TL.run1 (pure_extract rfl rfl) rfl ?_); (iterate 2 refine TL.run1 (pure_assign rfl) rfl ?_); refine TL.nil' ?_; refine TC.seq ?_; refine TC.regionCut [23, 24, 25, 26, 27, 28, 29, 30, 31, 32] 32 ((shN (byt s (rpos s k) : Int)) = 0 ∨ (rpos s k : Int) + (shN (byt s (rpos s k) : Int)) > s.size) ?_ ?_
    · skip
      refine TL.run1 (pure_move rfl) rfl ?_; refine TL.run1 (pure_eql rfl rfl) rfl ?_; refine TL.run1 (pure_move rfl) rfl ?_; refine TL.splitP 25 rfl (fun hg25 => ?_) (fun hg25 => ?_)
      · try dsimp only at hg25
        (iterate 6 refine TL.passG rfl rfl rfl rfl ?_); refine TL.run1 (pure_pick_true rfl rfl) rfl ?_; refine TL.cutEnd (by repeat (first | exact Same.refl _ _ | refine Same.put rfl ?_)) rfl ?_
        first | (simp only [decide_eq_true_eq, Bool.false_eq_true, false_iff, true_iff, iff_true, iff_false, Bool.not_eq_true]; omega) | (simp_all; done) | (simp_all; omega) | grind
      · try dsimp only at hg25
        (iterate 2 refine TL.runG rfl rfl (pure_move rfl) rfl ?_); refine TL.runG rfl rfl (pure_add rfl rfl (mkI64 (by omega) (by omega))) rfl ?_; refine TL.runG rfl rfl (pure_move rfl) rfl ?_; refine TL.runG rfl rfl (pure_len_str Tryd.underlying9 rfl) rfl ?_; refine TL.runG rfl rfl (pure_gtr rfl rfl) rfl ?_; refine TL.run1 (pure_pick_false rfl rfl) rfl ?_; refine TL.cutEnd (by repeat (first | exact Same.refl _ _ | refine Same.put rfl ?_)) rfl ?_
        first | (simp only [decide_eq_true_eq, Bool.false_eq_true, false_iff, true_iff, iff_true, iff_false, Bool.not_eq_true]; omega) | (simp_all; done) | (simp_all; omega) | grind
    refine TC.condD rfl (fun hc32 => ?_) (fun hc32 => ?_)
    · try dsimp only at hc32
      refine TC.seq ?_; refine TC.nilrow 3 1 ?_; refine TC.region ?_; (iterate 3 refine TL.run1 (pure_assign rfl) rfl ?_); refine TL.nil' ?_; refine TC.ret ?_; refine then_ret ?_; refine block_ret ?_; refine loop_ret ?_; refine block_ret ?_; refine then_ret ?_
      have hbad : okS s = false := okS_false hlt (step_none s _ hlt (by rcases hc32 with h | h; exact .inl h; exact .inr h))
      unfold ptsV offsV; rw [hbad]
      exact ret3F (.inl rfl) rfl rfl rfl (.tupL (.cons (.rowS (v := .slice none 0 0) (e := 3) (xs := []) (by repeat (first | exact List.Mem.head _ | apply List.Mem.tail)) (by decide) (by simp)) (.cons (.rowS (v := .slice none 0 0) (e := 3) (xs := []) (by repeat (first | exact List.Mem.head _ | apply List.Mem.tail)) (by decide) (by simp)) (.cons (.same _) .nil))))
    · try dsimp only at hc32
      refine TC.skip' ?_; (iterate 2 refine TC.seq ?_); refine TC.region ?_; refine TL.run1 (pure_assign rfl) rfl ?_; refine TL.nil' ?_; refine TC.block ?_; refine TC.loopX (X := Nat) (fun i => [(0, .v (.string s)), (2, .v v), (3, .v v2), (5, .sl 1 (encI leastL)), (6, .v (.int .i64 (rpos s k : Int))), (7, .v (.int .i64 (shN (byt s (rpos s k) : Int)))), (8, .v (.int .i64 (accR s (rpos s k) i))), (9, .v (.int .i64 i))]) (fun i => [.row v 3 1 (encI (ptsTo s k)), .row v2 3 1 (encI (offsTo s k))]) (fun i => (1 ≤ i) ∧ ((i : Int) ≤ (shN (byt s (rpos s k) : Int))) ∧ (ConT s (rpos s k) i)) (fun i => ((shN (byt s (rpos s k) : Int)) - i).toNat) (1) ⟨by skip; repeat (first | exact Agree.nil | refine Agree.cons rfl ?_), by skip; repeat (first | exact List.nil_sublist _ | exact List.Sublist.refl _ | apply List.Sublist.cons_cons | apply List.Sublist.cons)⟩ ?_ ?_
      · skip
        exact ⟨by omega, by have := shN_cases (byt s (rpos s k) : Int); omega, fun j a b => by omega⟩
      intro i
      rintro ⟨i1, i2, i3⟩
      show TC _ _ _ (Env.of [(0, .v (.string s)), (2, .v v), (3, .v v2), (5, .sl 1 (encI leastL)), (6, .v (.int .i64 (rpos s k : Int))), (7, .v (.int .i64 (shN (byt s (rpos s k) : Int)))), (8, .v (.int .i64 (accR s (rpos s k) i))), (9, .v (.int .i64 i))]) [.row v 3 1 (encI (ptsTo s k)), .row v2 3 1 (encI (offsTo s k))]
      have hrg := accR_range s (rpos s k) i i1 i2 i3
      have hb2 := byt_lt s (rpos s k + i)
      (iterate 2 refine TC.seq ?_); refine TC.region ?_; (iterate 2 refine TL.run1 (pure_move rfl) rfl ?_); refine TL.run1 (pure_lss rfl rfl) rfl ?_; refine TL.nil' ?_; refine TC.condD rfl (fun hc35 => ?_) (fun hc35 => ?_)
      · try dsimp only at hc35
        refine TC.skip' ?_; refine TC.seq ?_; refine TC.block ?_; refine TC.seq ?_; refine TC.region ?_; (iterate 3 refine TL.run1 (pure_move rfl) rfl ?_); refine TL.run1 (pure_add rfl rfl (mkI64 (by omega) (by omega))) rfl ?_; refine TL.run1 (pure_index_byt (j := rpos s k + i) Tryd.underlying9 rfl rfl (by omega) (by omega)) rfl ?_; refine TL.run1 (pure_assign rfl) rfl ?_; refine TL.nil' ?_; refine TC.seq ?_; refine TC.regionCut [43, 44, 45, 46, 47, 48] 48 ((byt s (rpos s k + i) : Int) < 128 ∨ (byt s (rpos s k + i) : Int) > 191) ?_ ?_
        · skip
          refine TL.run1 (pure_move rfl) rfl ?_; refine TL.run1 (pure_lss rfl rfl) rfl ?_; refine TL.run1 (pure_move rfl) rfl ?_; refine TL.splitP 45 rfl (fun hg45 => ?_) (fun hg45 => ?_)
          · try dsimp only at hg45
            (iterate 2 refine TL.passG rfl rfl rfl rfl ?_); refine TL.run1 (pure_pick_true rfl rfl) rfl ?_; refine TL.cutEnd (by repeat (first | exact Same.refl _ _ | refine Same.put rfl ?_)) rfl ?_
            first | (simp only [decide_eq_true_eq, Bool.false_eq_true, false_iff, true_iff, iff_true, iff_false, Bool.not_eq_true]; omega) | (simp_all; done) | (simp_all; omega) | grind
          · try dsimp only at hg45
            refine TL.runG rfl rfl (pure_move rfl) rfl ?_; refine TL.runG rfl rfl (pure_gtr rfl rfl) rfl ?_; refine TL.run1 (pure_pick_false rfl rfl) rfl ?_; refine TL.cutEnd (by repeat (first | exact Same.refl _ _ | refine Same.put rfl ?_)) rfl ?_
            first | (simp only [decide_eq_true_eq, Bool.false_eq_true, false_iff, true_iff, iff_true, iff_false, Bool.not_eq_true]; omega) | (simp_all; done) | (simp_all; omega) | grind
        refine TC.condD rfl (fun hc48 => ?_) (fun hc48 => ?_)
        · try dsimp only at hc48
          refine TC.seq ?_; refine TC.nilrow 3 1 ?_; refine TC.region ?_; (iterate 3 refine TL.run1 (pure_assign rfl) rfl ?_); refine TL.nil' ?_; refine TC.ret ?_; refine then_ret ?_; refine block_ret ?_; refine then_ret ?_; refine loop_ret ?_; refine block_ret ?_; refine then_ret ?_; refine block_ret ?_; refine loop_ret ?_; refine block_ret ?_; refine then_ret ?_
          have hbad : okS s = false := okS_false hlt (step_cont s _ i i1 (by omega) (by omega))
          unfold ptsV offsV; rw [hbad]
          exact ret3F (.inl rfl) rfl rfl rfl (.tupL (.cons (.rowS (v := .slice none 0 0) (e := 3) (xs := []) (by repeat (first | exact List.Mem.head _ | apply List.Mem.tail)) (by decide) (by simp)) (.cons (.rowS (v := .slice none 0 0) (e := 3) (xs := []) (by repeat (first | exact List.Mem.head _ | apply List.Mem.tail)) (by decide) (by simp)) (.cons (.same _) .nil))))
        · try dsimp only at hc48
          refine TC.skip' ?_; refine TC.region ?_; refine TL.run1 (pure_move rfl) rfl ?_; refine TL.run1 (pure_mul rfl rfl (mkI64 (by omega) (by omega))) rfl ?_; refine TL.run1 (pure_move rfl) rfl ?_; refine TL.run1 (pure_conv Tryd.underlying5 Tryd.underlying3 rfl (fit_i64 (by omega) (by omega))) rfl ?_; refine TL.run1 (pure_add rfl rfl (mkI64 (by omega) (by omega))) rfl ?_; refine TL.run1 (pure_sub rfl rfl (mkI64 (by omega) (by omega))) rfl ?_; refine TL.run1 (pure_assign rfl) rfl ?_; refine TL.nil ?_; refine block_normal ?_; refine then_normal ?_; refine TC.region ?_; refine TL.run1 (pure_move rfl) rfl ?_; refine TL.run1 (pure_add rfl rfl (mkI64 (by omega) (by omega))) rfl ?_; refine TL.run1 (pure_assign rfl) rfl ?_; refine TL.nil ?_
          have hac : accR s (rpos s k) (i + 1) = 64 * accR s (rpos s k) i + byt s (rpos s k + i) - 128 := by (obtain ⟨m, rfl⟩ : ∃ m, i = m + 1 := ⟨i - 1, by omega⟩; rw [show m + 1 + 1 = m + 2 from rfl, accR, Nat.add_assoc])
          refine loop_next (i + 1) ⟨by ((try dsimp only); rw [hac, show (((i + 1 : Nat)) : Int) = (i : Int) + 1 by omega]; repeat (first | exact Agree.nil | refine Agree.cons rfl ?_)), by repeat (first | exact List.nil_sublist _ | exact List.Sublist.refl _ | apply List.Sublist.cons_cons | apply List.Sublist.cons)⟩ ⟨by omega, by omega, fun j a b => by rcases Nat.lt_or_eq_of_le (show j ≤ i by omega) with h | h; exact i3 j a (by omega); rw [h]; omega⟩ (by omega)
      · try dsimp only at hc35
        refine TC.exit ?_; refine then_exit ?_; refine loop_exit ?_; refine block_here ?_; refine then_normal ?_; refine TC.seq ?_
        obtain ⟨n, hn⟩ : ∃ n : Nat, (shN (byt s (rpos s k) : Int)) = n := ⟨(shN (byt s (rpos s k) : Int)).toNat, by omega⟩
        obtain rfl : i = n := by omega
        have hct : ConT s (rpos s k) i := i3
        have hrow := encI_get leastL (shN (byt s (rpos s k) : Int)) (by omega) (by have : leastL.length = 5 := rfl; omega)
        refine TC.regionCut [55, 56, 57, 58, 59, 60, 61, 62, 63, 64, 65, 66, 67, 68, 69, 70, 71, 72] 72 (PtBad (accR s (rpos s k) i) (shN (byt s (rpos s k) : Int))) ?_ ?_
        · skip
          (iterate 3 refine TL.run1 (pure_move rfl) rfl ?_); refine TL.run1 (pure_indexAddr Ty.sl35 rfl rfl (by omega) (by assumption) (List.cons_ne_nil _ _)) rfl ?_; refine TL.run1 (pure_load1 Ty.one3 rfl) rfl ?_; refine TL.run1 (pure_lss rfl rfl) rfl ?_; refine TL.run1 (pure_move rfl) rfl ?_; refine TL.splitP 61 rfl (fun hg61 => ?_) (fun hg61 => ?_)
          · try dsimp only at hg61
            (iterate 2 refine TL.passG rfl rfl rfl rfl ?_); refine TL.run1 (pure_pick_true rfl rfl) rfl ?_; refine TL.run1 (pure_move rfl) rfl ?_; (iterate 6 refine TL.passG rfl rfl rfl rfl ?_); refine TL.run1 (pure_pick_true rfl rfl) rfl ?_; refine TL.cutEnd (by repeat (first | exact Same.refl _ _ | refine Same.put rfl ?_)) rfl ?_
            first | (simp only [PtBad, decide_eq_true_eq, Bool.false_eq_true, false_iff, true_iff, iff_true, iff_false, Bool.not_eq_true]; omega) | grind [PtBad]
          · try dsimp only at hg61
            refine TL.runG rfl rfl (pure_move rfl) rfl ?_; refine TL.runG rfl rfl (pure_gtr rfl rfl) rfl ?_; refine TL.run1 (pure_pick_false rfl rfl) rfl ?_; refine TL.run1 (pure_move rfl) rfl ?_; refine TL.splitP 65 rfl (fun hg65 => ?_) (fun hg65 => ?_)
            · try dsimp only at hg65
              (iterate 6 refine TL.passG rfl rfl rfl rfl ?_); refine TL.run1 (pure_pick_true rfl rfl) rfl ?_; refine TL.cutEnd (by repeat (first | exact Same.refl _ _ | refine Same.put rfl ?_)) rfl ?_
              first | (simp only [PtBad, decide_eq_true_eq, Bool.false_eq_true, false_iff, true_iff, iff_true, iff_false, Bool.not_eq_true]; omega) | grind [PtBad]
            · try dsimp only at hg65
              refine TL.runG rfl rfl (pure_move rfl) rfl ?_; refine TL.runG rfl rfl (pure_geq rfl rfl) rfl ?_; refine TL.runG rfl rfl (pure_move rfl) rfl ?_; refine TL.splitP 68 rfl (fun hg68 => ?_) (fun hg68 => ?_)
              · try dsimp only at hg68
                refine TL.runG rfl rfl (pure_move rfl) rfl ?_; refine TL.runG rfl rfl (pure_leq rfl rfl) rfl ?_; refine TL.runG rfl rfl (pure_pick_true rfl rfl) rfl ?_; refine TL.run1 (pure_pick_false rfl rfl) rfl ?_; refine TL.cutEnd (by repeat (first | exact Same.refl _ _ | refine Same.put rfl ?_)) rfl ?_
                first | (simp only [PtBad, decide_eq_true_eq, Bool.false_eq_true, false_iff, true_iff, iff_true, iff_false, Bool.not_eq_true]; omega) | grind [PtBad]
              · try dsimp only at hg68
                (iterate 2 refine TL.passG rfl rfl rfl rfl ?_); refine TL.runG rfl rfl (pure_pick_false rfl rfl) rfl ?_; refine TL.run1 (pure_pick_false rfl rfl) rfl ?_; refine TL.cutEnd (by repeat (first | exact Same.refl _ _ | refine Same.put rfl ?_)) rfl ?_
                first | (simp only [PtBad, decide_eq_true_eq, Bool.false_eq_true, false_iff, true_iff, iff_true, iff_false, Bool.not_eq_true]; omega) | grind [PtBad]
        refine TC.condD rfl (fun hc72 => ?_) (fun hc72 => ?_)
        · try dsimp only at hc72
          rw [hn] at hc72
          refine TC.seq ?_; refine TC.nilrow 3 1 ?_; refine TC.region ?_; (iterate 3 refine TL.run1 (pure_assign rfl) rfl ?_); refine TL.nil' ?_; refine TC.ret ?_; refine then_ret ?_; refine block_ret ?_; refine loop_ret ?_; refine block_ret ?_; refine then_ret ?_
          have hbad : okS s = false := okS_false hlt ((step_full s _ i hn (by omega) (by omega) hct).1 hc72)
          unfold ptsV offsV; rw [hbad]
          exact ret3F (.inl rfl) rfl rfl rfl (.tupL (.cons (.rowS (v := .slice none 0 0) (e := 3) (xs := []) (by repeat (first | exact List.Mem.head _ | apply List.Mem.tail)) (by decide) (by simp)) (.cons (.rowS (v := .slice none 0 0) (e := 3) (xs := []) (by repeat (first | exact List.Mem.head _ | apply List.Mem.tail)) (by decide) (by simp)) (.cons (.same _) .nil))))
        · try dsimp only at hc72
          rw [hn] at hc72
          obtain ⟨g1, g2, g3⟩ := (step_full s _ i hn (by omega) (by omega) hct).2 hc72
          refine TC.skip' ?_; refine TC.seq ?_
          have hk1 := ptsTo_len s k
          have hk2 := offsTo_len s k
          have hk3 := encI_len (ptsTo s k)
          have hk4 := encI_len (offsTo s k)
          have hk5 := rpos_ge s k
          refine TC.region ?_; (iterate 2 refine TL.run1 (pure_move rfl) rfl ?_); refine TL.run1 (pure_buildSlice (xs := [.tmp 74]) Ty.app35 (by decide) rfl rfl (.cons rfl (.one rfl) rfl .nil)) rfl ?_; refine TL.append Ty.app35 rfl rfl (by intro _; repeat (first | exact UpdR.here _ | apply UpdR.there)) (by simp only [List.length_append, List.length_cons, List.length_nil]; omega) (by simp only [List.length_append, List.length_cons, List.length_nil]; omega) rfl (fun v76 hv76 => ?_); (iterate 2 refine TL.run1 (pure_move rfl) rfl ?_); refine TL.run1 (pure_buildSlice (xs := [.tmp 78]) Ty.app35 (by decide) rfl rfl (.cons rfl (.one rfl) rfl .nil)) rfl ?_; refine TL.append Ty.app35 rfl rfl (by intro _; repeat (first | exact UpdR.here _ | apply UpdR.there)) (by simp only [List.length_append, List.length_cons, List.length_nil]; omega) (by simp only [List.length_append, List.length_cons, List.length_nil]; omega) rfl (fun v80 hv80 => ?_); (iterate 2 refine TL.run1 (pure_assign rfl) rfl ?_); refine TL.nil' ?_; refine TC.region ?_; (iterate 2 refine TL.run1 (pure_move rfl) rfl ?_); refine TL.run1 (pure_add rfl rfl (mkI64 (by omega) (by omega))) rfl ?_; refine TL.run1 (pure_assign rfl) rfl ?_; refine TL.nil ?_; refine block_normal ?_; refine loop_next (k + 1, v76, v80) ⟨by (dsimp only; rw [show ((rpos s (k + 1) : Nat) : Int) = (rpos s k : Int) + (shN (byt s (rpos s k) : Int)) by (rw [rpos, g3]; omega)]; repeat (first | exact Agree.nil | refine Agree.cons rfl ?_)), by dsimp only; rw [ptsTo_succ, offsTo_succ, encI_snoc, encI_snoc, show ptN s k = accR s (rpos s k) i from g2]; repeat (first | exact List.nil_sublist _ | exact List.Sublist.refl _ | apply List.Sublist.cons_cons | apply List.Sublist.cons)⟩ ⟨by (rw [rpos]; have := dc_in s _ hlt; omega), fun j hj => by rcases Nat.lt_or_eq_of_le (Nat.le_of_lt_succ hj) with h | h; exact h1 j h; rw [h]; exact g1⟩ (by dsimp only; have := rpos_lt s k; have : rpos s (k + 1) ≤ s.size := (by rw [rpos]; exact dc_in s _ hlt); omega)
  · try dsimp only at hc15
    refine TC.exit ?_; refine then_exit ?_; refine loop_exit ?_; refine block_here ?_; refine then_normal ?_; refine TC.seq ?_; refine TC.region ?_; (iterate 2 refine TL.run1 (pure_move rfl) rfl ?_); (iterate 3 refine TL.run1 (pure_assign rfl) rfl ?_); refine TL.nil' ?_; refine TC.ret ?_
    have hk : k = nR s := nR_eq (by omega)
    subst hk
    have hok : okS s = true := decide_eq_true fun j hj => h1 j hj
    unfold ptsV offsV; rw [hok]
    exact ret3F (.inl rfl) rfl rfl rfl (.tupL (.cons (.rowS (by repeat (first | exact List.Mem.head _ | apply List.Mem.tail)) (by decide) (encI_each _)) (.cons (.rowS (by repeat (first | exact List.Mem.head _ | apply List.Mem.tail)) (by decide) (encI_each _)) (.cons (.same _) .nil))))
end Go.Ob
