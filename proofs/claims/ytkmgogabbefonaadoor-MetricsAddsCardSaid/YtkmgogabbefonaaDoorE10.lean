import Derived.Test.YtkmgogabbefonaaDoorE9
set_option linter.unusedVariables false
set_option linter.unusedSimpArgs false
namespace Go.Ob
open Go.Proofs

theorem vbad {f : Fo} {s : ByteArray} (h : chkV f [s] ≠ 0) (x : Int) : offV f s = [] ∧ txtV f s = 0 ∧ fitV f s x = 0 ∧ hitV f s x = 0 := by
  unfold offV txtV fitV hitV; rw [if_neg h, if_neg h, if_neg h, if_neg h]; exact ⟨rfl, rfl, rfl, rfl⟩
theorem vok {f : Fo} {s : ByteArray} (h : chkV f [s] = 0) (x : Int) : offV f s = offP f (cluV s) ∧ txtV f s = wS f (cluV s) (cluV s).length ∧ fitV f s x = fitP (offP f (cluV s)) x ((cluV s).length + 1) ∧ hitV f s x = (hitP (offP f (cluV s)) (clampX x (lastW f s)) ((cluV s).length + 1) : Nat) := by
  unfold offV txtV fitV hitV; rw [if_pos h, if_pos h, if_pos h, if_pos h]; exact ⟨rfl, rfl, rfl, rfl⟩
theorem chk_errF {f : Fo} {s : ByteArray} : (errF f ≠ 0 → chkV f [s] = errF f) ∧ (errF f = 0 → chkV f [s] = errU s) := by
  constructor
  · intro h
    have hb := errF_of h
    rw [chk_bad hb, errF_bad hb]
  · intro h
    have hb := errF_not (f := f) (fun e => e h)
    cases ho : okS s with
    | true => rw [chk_one hb ho, (okV ho).2.2.2.2]
    | false => rw [chk_utf hb (List.mem_singleton.2 rfl) ho, (badV ho).2.2.2.2]
def distP (x y : Int) : Int := if x > 2305843009213693952 ∨ x < -2305843009213693952 then 4611686018427387904 else max (x - y) (y - x)
theorem hit_key (x a b m : Int) (h0 : 0 ≤ b) (h1 : b ≤ a) (h2 : a ≤ m) (h3 : m ≤ 1000000000000) : (distP x a < distP x b ∨ (x > 2305843009213693952 ∧ a > b)) ↔ absD a (clampX x m) < absD b (clampX x m) := by
  unfold distP absD clampX
  by_cases h : x > 2305843009213693952 ∨ x < -2305843009213693952
  · rw [if_pos h, if_pos h]; omega
  · rw [if_neg h, if_neg h]; omega
set_option maxRecDepth 100000 in
theorem dist_spec (x y : Int) (h0 : 0 ≤ y) (h1 : y ≤ 1000000000000) : Fun Tryd.prog 28 [.v (.int .i64 x), .v (.int .i64 y)] (.v (.int .i64 (distP x y))) := by
  refine Fun.enter (n := 18) (rs := [.tmp 4]) Tryd.func28 rfl Tryd.ntmps28 Tryd.results28 rfl (fun w F => ?_)
  refine TC.seq ?_
  refine TC.region ?_
  refine TL.run1 (pure_assign rfl) rfl ?_
  refine TL.nil' ?_
  refine TC.seq ?_
  refine TC.regionCut [5, 6, 7, 8, 9, 10] 10 (x > 2305843009213693952 ∨ x < -2305843009213693952) ?_ ?_
  · skip
    refine TL.run1 (pure_move rfl) rfl ?_
    refine TL.run1 (pure_gtr rfl rfl) rfl ?_
    refine TL.run1 (pure_move rfl) rfl ?_
    first | refine TL.splitP 7 rfl (fun hg7 => ?_) (fun hg7 => ?_) | refine TL.split 7 rfl (fun hg7 => ?_) (fun hg7 => ?_)
    · try dsimp only at hg7
      refine TL.passG rfl rfl rfl rfl ?_
      refine TL.passG rfl rfl rfl rfl ?_
      refine TL.run1 (pure_pick_true rfl rfl) rfl ?_
      refine TL.cutEnd (by repeat (first | exact Same.refl _ _ | refine Same.put rfl ?_)) rfl ?_
      first | (simp only [decide_eq_true_eq, Bool.false_eq_true, false_iff, true_iff, iff_true, iff_false, Bool.not_eq_true]; omega) | (simp_all; done) | (simp_all; omega) | grind
    · try dsimp only at hg7
      refine TL.runG rfl rfl (pure_move rfl) rfl ?_
      refine TL.runG rfl rfl (pure_lss rfl rfl) rfl ?_
      refine TL.run1 (pure_pick_false rfl rfl) rfl ?_
      refine TL.cutEnd (by repeat (first | exact Same.refl _ _ | refine Same.put rfl ?_)) rfl ?_
      first | (simp only [decide_eq_true_eq, Bool.false_eq_true, false_iff, true_iff, iff_true, iff_false, Bool.not_eq_true]; omega) | (simp_all; done) | (simp_all; omega) | grind
  first | refine TC.condD rfl (fun hc10 => ?_) (fun hc10 => ?_) | refine TC.condN rfl (fun hc10 => ?_) (fun hc10 => ?_) | refine TC.cond rfl (fun hc10 => ?_) (fun hc10 => ?_)
  · try dsimp only at hc10
    refine TC.seq ?_
    refine TC.region ?_
    refine TL.run1 (pure_assign rfl) rfl ?_
    refine TL.nil' ?_
    refine TC.ret ?_
    refine then_ret ?_
    exact ret_int rfl (by unfold distP; rw [if_pos hc10])
  · try dsimp only at hc10
    refine TC.skip' ?_
    refine TC.seq ?_
    refine TC.region ?_
    refine TL.run1 (pure_move rfl) rfl ?_
    refine TL.run1 (pure_move rfl) rfl ?_
    refine TL.run1 (pure_sub rfl rfl (mkI64 (by omega) (by omega))) rfl ?_
    refine TL.run1 (pure_move rfl) rfl ?_
    refine TL.run1 (pure_move rfl) rfl ?_
    refine TL.run1 (pure_sub rfl rfl (mkI64 (by omega) (by omega))) rfl ?_
    refine TL.run1 (pure_max rfl rfl) rfl ?_
    refine TL.run1 (pure_assign rfl) rfl ?_
    refine TL.nil' ?_
    refine TC.ret ?_
    exact ret_int rfl (by unfold distP; rw [if_neg hc10])
set_option maxRecDepth 100000 in
theorem MetricsOffsets_spec (f : Fo) (s : ByteArray) : Fun Tryd.prog 4 [.agg [.v (.int .i64 f.face), .v (.int .i64 f.size), .v (.int .i64 f.raise), .v (.bool f.bold)], .v (.string s)] (.v (.bool true)) := by
  refine Fun.enter (n := 116) (rs := [.tmp 4]) Tryd.func4 rfl Tryd.ntmps4 Tryd.results4 rfl (fun w F => ?_)
  refine TC.seq ?_
  refine TC.region ?_
  refine TL.box rfl (.agg _) rfl (fun g2 => ?_)
  refine TL.run1 (pure_assign rfl) rfl ?_
  refine TL.nil' ?_
  refine TC.seq ?_
  refine TC.region ?_
  refine TL.run1 (pure_move rfl) rfl ?_
  refine TL.run1 (pure_call (cut_spec s) (.cons rfl .nil) Tryd.call12) rfl ?_
  refine TL.run1 (pure_assign rfl) rfl ?_
  refine TL.nil' ?_
  refine TC.seq ?_
  refine TC.seq ?_
  obtain ⟨c, hcd⟩ : ∃ c, cutT s = c := ⟨_, rfl⟩
  rw [hcd]
  have hcs : c.size ≤ 200 := hcd ▸ cutT_size s
  refine TC.region ?_
  refine TL.run1 (pure_call (known_spec) .nil Tryd.call13) rfl ?_
  refine TL.run1 (pure_not rfl) rfl ?_
  refine TL.nil' ?_
  first | refine TC.condD rfl (fun hc17 => ?_) (fun hc17 => ?_) | refine TC.condN rfl (fun hc17 => ?_) (fun hc17 => ?_) | refine TC.cond rfl (fun hc17 => ?_) (fun hc17 => ?_)
  · try dsimp only at hc17
    exact absurd hc17 (by simp)
  · try dsimp only at hc17
    refine TC.skip' ?_
    refine TC.seq ?_
    refine TC.region ?_
    first | refine TL.run1 (pure_load Ty.agg23 rfl (.succ (.succ (.succ (.succ (.zero _)))))) rfl ?_ | refine TL.run1 (pure_load_own Ty.agg23 rfl (by repeat (first | exact List.Mem.head _ | apply List.Mem.tail)) (by repeat (first | exact DropR.zero _ | apply DropR.succ)) (.succ (.succ (.succ (.succ (.zero _)))))) rfl ?_
    refine TL.run1 (pure_move rfl) rfl ?_
    refine TL.run1 (pure_call (Offsets_spec f c (by omega)) (.cons rfl (.cons rfl .nil)) Tryd.call18) rfl ?_
    refine TL.run1 (pure_move rfl) rfl ?_
    refine TL.run1 (pure_extract rfl rfl) rfl ?_
    refine TL.run1 (pure_extract rfl rfl) rfl ?_
    refine TL.run1 (pure_assign rfl) rfl ?_
    refine TL.run1 (pure_assign rfl) rfl ?_
    refine TL.nil' ?_
    refine TC.seq ?_
    refine TC.region ?_
    first | refine TL.run1 (pure_load Ty.agg23 rfl (.succ (.succ (.succ (.succ (.zero _)))))) rfl ?_ | refine TL.run1 (pure_load_own Ty.agg23 rfl (by repeat (first | exact List.Mem.head _ | apply List.Mem.tail)) (by repeat (first | exact DropR.zero _ | apply DropR.succ)) (.succ (.succ (.succ (.succ (.zero _)))))) rfl ?_
    refine TL.run1 (pure_move rfl) rfl ?_
    refine TL.run1 (pure_call (Text_spec f c (by omega)) (.cons rfl (.cons rfl .nil)) Tryd.call19) rfl ?_
    refine TL.run1 (pure_move rfl) rfl ?_
    refine TL.run1 (pure_extract rfl rfl) rfl ?_
    refine TL.run1 (pure_extract rfl rfl) rfl ?_
    refine TL.run1 (pure_assign rfl) rfl ?_
    refine TL.run1 (pure_assign rfl) rfl ?_
    refine TL.nil' ?_
    refine TC.seq ?_
    refine TC.region ?_
    refine TL.run1 (pure_move rfl) rfl ?_
    refine TL.run1 (pure_call (Clusters_spec c (by omega)) (.cons rfl .nil) Tryd.call15) rfl ?_
    refine TL.run1 (pure_move rfl) rfl ?_
    refine TL.run1 (pure_extract rfl rfl) rfl ?_
    refine TL.run1 (pure_extract rfl rfl) rfl ?_
    refine TL.run1 (pure_assign rfl) rfl ?_
    refine TL.run1 (pure_assign rfl) rfl ?_
    refine TL.nil' ?_
    refine TC.seq ?_
    refine TC.region ?_
    first | refine TL.run1 (pure_load Ty.agg23 rfl (.succ (.succ (.succ (.succ (.zero _)))))) rfl ?_ | refine TL.run1 (pure_load_own Ty.agg23 rfl (by repeat (first | exact List.Mem.head _ | apply List.Mem.tail)) (by repeat (first | exact DropR.zero _ | apply DropR.succ)) (.succ (.succ (.succ (.succ (.zero _)))))) rfl ?_
    refine TL.run1 (pure_call (check_spec f) (.cons rfl .nil) Tryd.call16) rfl ?_
    refine TL.run1 (pure_assign rfl) rfl ?_
    refine TL.nil' ?_
    refine TC.seq ?_
    refine TC.seq ?_
    refine TC.region ?_
    refine TL.run1 (pure_move rfl) rfl ?_
    refine TL.run1 (pure_eql rfl rfl) rfl ?_
    refine TL.nil' ?_
    first | refine TC.condD rfl (fun hc38 => ?_) (fun hc38 => ?_) | refine TC.condN rfl (fun hc38 => ?_) (fun hc38 => ?_) | refine TC.cond rfl (fun hc38 => ?_) (fun hc38 => ?_)
    · try dsimp only at hc38
      have hfb : ¬ FBad f := errF_not (fun h => h hc38)
      refine TC.region ?_
      refine TL.run1 (pure_move rfl) rfl ?_
      refine TL.run1 (pure_assign rfl) rfl ?_
      refine TL.nil' ?_
      refine TC.seq ?_
      refine TC.seq ?_
      refine TC.region ?_
      refine TL.run1 (pure_move rfl) rfl ?_
      refine TL.run1 (pure_neq rfl rfl) rfl ?_
      refine TL.nil' ?_
      first | refine TC.condD rfl (fun hc41 => ?_) (fun hc41 => ?_) | refine TC.condN rfl (fun hc41 => ?_) (fun hc41 => ?_) | refine TC.cond rfl (fun hc41 => ?_) (fun hc41 => ?_)
      · try dsimp only at hc41
        have hok := errU_bad hc41
        have hch := chk_utf hfb (List.mem_singleton.2 rfl) hok
        obtain ⟨v1, v2, _⟩ := vbad (x := 0) (show chkV f [c] ≠ 0 by rw [hch]; decide)
        rw [v1, v2, hch, (badV hok).2.2.2.2]
        refine TC.regionCut [42, 43, 44, 45, 46, 47, 48, 49, 50, 51, 52, 53, 54, 55, 56, 57, 58, 4] 4 (True) ?_ ?_
        · skip
          refine TL.run1 (pure_move rfl) rfl ?_
          first | refine TL.run1 (pure_len Ty.sl35 rfl) rfl ?_ | refine TL.run1 (pure_len_row Ty.sl35 rfl (by repeat (first | exact List.Mem.head _ | apply List.Mem.tail))) rfl ?_ | refine TL.run1 (pure_len_nil Ty.sl35 rfl) rfl ?_
          refine TL.run1 (pure_eql rfl rfl) rfl ?_
          refine TL.run1 (pure_move rfl) rfl ?_
          first | refine TL.splitP 45 rfl (fun hg45 => ?_) (fun hg45 => ?_) | refine TL.split 45 rfl (fun hg45 => ?_) (fun hg45 => ?_)
          · try dsimp only at hg45
            refine TL.runG rfl rfl (pure_move rfl) rfl ?_
            refine TL.runG rfl rfl (pure_move rfl) rfl ?_
            refine TL.runG rfl rfl (pure_eql rfl rfl) rfl ?_
            refine TL.run1 (pure_pick_true rfl rfl) rfl ?_
            refine TL.run1 (pure_move rfl) rfl ?_
            first | refine TL.splitP 50 rfl (fun hg50 => ?_) (fun hg50 => ?_) | refine TL.split 50 rfl (fun hg50 => ?_) (fun hg50 => ?_)
            · try dsimp only at hg50
              refine TL.runG rfl rfl (pure_move rfl) rfl ?_
              refine TL.runG rfl rfl (pure_eql rfl rfl) rfl ?_
              refine TL.run1 (pure_pick_true rfl rfl) rfl ?_
              refine TL.run1 (pure_move rfl) rfl ?_
              first | refine TL.splitP 54 rfl (fun hg54 => ?_) (fun hg54 => ?_) | refine TL.split 54 rfl (fun hg54 => ?_) (fun hg54 => ?_)
              · try dsimp only at hg54
                refine TL.runG rfl rfl (pure_move rfl) rfl ?_
                refine TL.runG rfl rfl (pure_move rfl) rfl ?_
                refine TL.runG rfl rfl (pure_eql rfl rfl) rfl ?_
                refine TL.run1 (pure_pick_true rfl rfl) rfl ?_
                refine TL.run1 (pure_assign rfl) rfl ?_
                refine TL.cutEnd (by repeat (first | exact Same.refl _ _ | refine Same.put rfl ?_)) rfl ?_
                first | rfl | (simp_all [encI, encT]; done) | (simp_all; omega) | grind
              · try dsimp only at hg54
                refine TL.passG rfl rfl rfl rfl ?_
                refine TL.passG rfl rfl rfl rfl ?_
                refine TL.passG rfl rfl rfl rfl ?_
                refine TL.run1 (pure_pick_false rfl rfl) rfl ?_
                refine TL.run1 (pure_assign rfl) rfl ?_
                refine TL.cutEnd (by repeat (first | exact Same.refl _ _ | refine Same.put rfl ?_)) rfl ?_
                first | rfl | (simp_all [encI, encT]; done) | (simp_all; omega) | grind
            · try dsimp only at hg50
              refine TL.passG rfl rfl rfl rfl ?_
              refine TL.passG rfl rfl rfl rfl ?_
              refine TL.run1 (pure_pick_false rfl rfl) rfl ?_
              refine TL.run1 (pure_move rfl) rfl ?_
              refine TL.passG rfl rfl rfl rfl ?_
              refine TL.passG rfl rfl rfl rfl ?_
              refine TL.passG rfl rfl rfl rfl ?_
              refine TL.run1 (pure_pick_false rfl rfl) rfl ?_
              refine TL.run1 (pure_assign rfl) rfl ?_
              refine TL.cutEnd (by repeat (first | exact Same.refl _ _ | refine Same.put rfl ?_)) rfl ?_
              first | rfl | (simp_all [encI, encT]; done) | (simp_all; omega) | grind
          · try dsimp only at hg45
            refine TL.passG rfl rfl rfl rfl ?_
            refine TL.passG rfl rfl rfl rfl ?_
            refine TL.passG rfl rfl rfl rfl ?_
            refine TL.run1 (pure_pick_false rfl rfl) rfl ?_
            refine TL.run1 (pure_move rfl) rfl ?_
            refine TL.passG rfl rfl rfl rfl ?_
            refine TL.passG rfl rfl rfl rfl ?_
            refine TL.run1 (pure_pick_false rfl rfl) rfl ?_
            refine TL.run1 (pure_move rfl) rfl ?_
            refine TL.passG rfl rfl rfl rfl ?_
            refine TL.passG rfl rfl rfl rfl ?_
            refine TL.passG rfl rfl rfl rfl ?_
            refine TL.run1 (pure_pick_false rfl rfl) rfl ?_
            refine TL.run1 (pure_assign rfl) rfl ?_
            refine TL.cutEnd (by repeat (first | exact Same.refl _ _ | refine Same.put rfl ?_)) rfl ?_
            first | rfl | (simp_all [encI, encT]; done) | (simp_all; omega) | grind
        refine TC.ret ?_
        refine then_ret ?_
        exact ret_bool rfl (by simp)
      · try dsimp only at hc41
        have hok := errU_good hc41
        have hch := chk_one hfb hok
        obtain ⟨v1, v2, _⟩ := vok (x := 0) hch
        rw [v1, v2, hch]
        have hcz := cluV_len c
        have hkl := encI_len (offP f (cluV c))
        have hol := offP_len f (cluV c)
        have hon := clu_ones hok
        have hrowL : (encI (offP f (cluV c)))[(((encI (offP f (cluV c))).length : Int) - 1).toNat]? = some [.v (.int .i64 (wS f (cluV c) (cluV c).length))] := by (rw [hkl, hol, show ((((cluV c).length + 1 : Nat) : Int) - 1).toNat = (cluV c).length by omega]; exact offP_get f _ _ (Nat.le_refl _))
        refine TC.skip' ?_
        refine TC.seq ?_
        refine TC.region ?_
        first | refine TL.run1 (pure_load Ty.agg23 rfl (.succ (.succ (.succ (.succ (.zero _)))))) rfl ?_ | refine TL.run1 (pure_load_own Ty.agg23 rfl (by repeat (first | exact List.Mem.head _ | apply List.Mem.tail)) (by repeat (first | exact DropR.zero _ | apply DropR.succ)) (.succ (.succ (.succ (.succ (.zero _)))))) rfl ?_
        refine TL.run1 (pure_move rfl) rfl ?_
        refine TL.run1 (pure_call (offsets_spec f c hfb hok (by omega)) (.cons rfl (.cons rfl .nil)) Tryd.call20) rfl ?_
        refine TL.run1 (pure_assign rfl) rfl ?_
        refine TL.nil' ?_
        refine TC.seq ?_
        refine TC.regionCut [62, 63, 64, 65, 66, 67, 68, 69, 70, 71, 72, 73, 74, 75, 76, 77, 78, 79, 80, 81, 82, 83, 84] 84 (False) ?_ ?_
        · skip
          refine TL.run1 (pure_move rfl) rfl ?_
          refine TL.run1 (pure_neq rfl rfl) rfl ?_
          refine TL.run1 (pure_move rfl) rfl ?_
          first | refine TL.splitP 64 rfl (fun hg64 => ?_) (fun hg64 => ?_) | refine TL.split 64 rfl (fun hg64 => ?_) (fun hg64 => ?_)
          · try dsimp only at hg64
            refine TL.passG rfl rfl rfl rfl ?_
            refine TL.passG rfl rfl rfl rfl ?_
            refine TL.run1 (pure_pick_true rfl rfl) rfl ?_
            refine TL.run1 (pure_move rfl) rfl ?_
            refine TL.passG rfl rfl rfl rfl ?_
            refine TL.passG rfl rfl rfl rfl ?_
            refine TL.passG rfl rfl rfl rfl ?_
            refine TL.passG rfl rfl rfl rfl ?_
            refine TL.passG rfl rfl rfl rfl ?_
            refine TL.run1 (pure_pick_true rfl rfl) rfl ?_
            refine TL.run1 (pure_move rfl) rfl ?_
            refine TL.passG rfl rfl rfl rfl ?_
            refine TL.passG rfl rfl rfl rfl ?_
            refine TL.passG rfl rfl rfl rfl ?_
            refine TL.passG rfl rfl rfl rfl ?_
            refine TL.passG rfl rfl rfl rfl ?_
            refine TL.passG rfl rfl rfl rfl ?_
            refine TL.passG rfl rfl rfl rfl ?_
            refine TL.passG rfl rfl rfl rfl ?_
            refine TL.run1 (pure_pick_true rfl rfl) rfl ?_
            refine TL.cutEnd (by repeat (first | exact Same.refl _ _ | refine Same.put rfl ?_)) rfl ?_
            first | (simp; done) | (simp_all; done) | (simp_all; omega) | grind
          · try dsimp only at hg64
            refine TL.runG rfl rfl (pure_move rfl) rfl ?_
            refine TL.runG rfl rfl (pure_neq rfl rfl) rfl ?_
            refine TL.run1 (pure_pick_false rfl rfl) rfl ?_
            refine TL.run1 (pure_move rfl) rfl ?_
            first | refine TL.splitP 68 rfl (fun hg68 => ?_) (fun hg68 => ?_) | refine TL.split 68 rfl (fun hg68 => ?_) (fun hg68 => ?_)
            · try dsimp only at hg68
              refine TL.passG rfl rfl rfl rfl ?_
              refine TL.passG rfl rfl rfl rfl ?_
              refine TL.passG rfl rfl rfl rfl ?_
              refine TL.passG rfl rfl rfl rfl ?_
              refine TL.passG rfl rfl rfl rfl ?_
              refine TL.run1 (pure_pick_true rfl rfl) rfl ?_
              refine TL.run1 (pure_move rfl) rfl ?_
              refine TL.passG rfl rfl rfl rfl ?_
              refine TL.passG rfl rfl rfl rfl ?_
              refine TL.passG rfl rfl rfl rfl ?_
              refine TL.passG rfl rfl rfl rfl ?_
              refine TL.passG rfl rfl rfl rfl ?_
              refine TL.passG rfl rfl rfl rfl ?_
              refine TL.passG rfl rfl rfl rfl ?_
              refine TL.passG rfl rfl rfl rfl ?_
              refine TL.run1 (pure_pick_true rfl rfl) rfl ?_
              refine TL.cutEnd (by repeat (first | exact Same.refl _ _ | refine Same.put rfl ?_)) rfl ?_
              first | (simp; done) | (simp_all; done) | (simp_all; omega) | grind
            · try dsimp only at hg68
              refine TL.runG rfl rfl (pure_move rfl) rfl ?_
              first | refine TL.runG rfl rfl (pure_len Ty.sl35 rfl) rfl ?_ | refine TL.runG rfl rfl (pure_len_row Ty.sl35 rfl (by repeat (first | exact List.Mem.head _ | apply List.Mem.tail))) rfl ?_ | refine TL.runG rfl rfl (pure_len_nil Ty.sl35 rfl) rfl ?_
              refine TL.runG rfl rfl (pure_move rfl) rfl ?_
              first | refine TL.runG rfl rfl (pure_len Ty.sl35 rfl) rfl ?_ | refine TL.runG rfl rfl (pure_len_row Ty.sl35 rfl (by repeat (first | exact List.Mem.head _ | apply List.Mem.tail))) rfl ?_ | refine TL.runG rfl rfl (pure_len_nil Ty.sl35 rfl) rfl ?_
              refine TL.runG rfl rfl (pure_neq rfl rfl) rfl ?_
              refine TL.run1 (pure_pick_false rfl rfl) rfl ?_
              refine TL.run1 (pure_move rfl) rfl ?_
              first | refine TL.splitP 75 rfl (fun hg75 => ?_) (fun hg75 => ?_) | refine TL.split 75 rfl (fun hg75 => ?_) (fun hg75 => ?_)
              · try dsimp only at hg75
                refine TL.passG rfl rfl rfl rfl ?_
                refine TL.passG rfl rfl rfl rfl ?_
                refine TL.passG rfl rfl rfl rfl ?_
                refine TL.passG rfl rfl rfl rfl ?_
                refine TL.passG rfl rfl rfl rfl ?_
                refine TL.passG rfl rfl rfl rfl ?_
                refine TL.passG rfl rfl rfl rfl ?_
                refine TL.passG rfl rfl rfl rfl ?_
                refine TL.run1 (pure_pick_true rfl rfl) rfl ?_
                refine TL.cutEnd (by repeat (first | exact Same.refl _ _ | refine Same.put rfl ?_)) rfl ?_
                first | (simp; done) | (simp_all; done) | (simp_all; omega) | grind
              · try dsimp only at hg75
                refine TL.runG rfl rfl (pure_move rfl) rfl ?_
                refine TL.runG rfl rfl (pure_move rfl) rfl ?_
                refine TL.runG rfl rfl (pure_move rfl) rfl ?_
                first | refine TL.runG rfl rfl (pure_len Ty.sl35 rfl) rfl ?_ | refine TL.runG rfl rfl (pure_len_row Ty.sl35 rfl (by repeat (first | exact List.Mem.head _ | apply List.Mem.tail))) rfl ?_ | refine TL.runG rfl rfl (pure_len_nil Ty.sl35 rfl) rfl ?_
                refine TL.runG rfl rfl (pure_sub rfl rfl (mkI64 (by omega) (by omega))) rfl ?_
                refine TL.runG rfl rfl (pure_indexAddr Ty.sl35 rfl rfl (by omega) hrowL (List.cons_ne_nil _ _)) rfl ?_
                first | refine TL.runG rfl rfl (pure_load1 Ty.one3 rfl) rfl ?_ | refine TL.runG rfl rfl (pure_load1_own Ty.one3 rfl (by repeat (first | exact List.Mem.head _ | apply List.Mem.tail)) (by repeat (first | exact DropR.zero _ | apply DropR.succ))) rfl ?_
                refine TL.runG rfl rfl (pure_neq rfl rfl) rfl ?_
                refine TL.run1 (pure_pick_false rfl rfl) rfl ?_
                refine TL.cutEnd (by repeat (first | exact Same.refl _ _ | refine Same.put rfl ?_)) rfl ?_
                first | (simp; done) | (simp_all; done) | (simp_all; omega) | grind
        first | refine TC.condD rfl (fun hc84 => ?_) (fun hc84 => ?_) | refine TC.condN rfl (fun hc84 => ?_) (fun hc84 => ?_) | refine TC.cond rfl (fun hc84 => ?_) (fun hc84 => ?_)
        · try dsimp only at hc84
          all_goals exact hc84.elim
        · try dsimp only at hc84
          refine TC.skip' ?_
          refine TC.seq ?_
          refine TC.seq ?_
          refine TC.region ?_
          refine TL.run1 (pure_assign rfl) rfl ?_
          refine TL.nil' ?_
          refine TC.block ?_
          refine TC.loopX (X := Nat) (fun i => [(5, .sl 1 (encI (offP f (cluV c)))), (12, .sl 1 (encI (offP f (cluV c)))), (13, .v (.int .i64 i))]) (fun i => []) (fun i => (i ≤ (cluV c).length + 1)) (fun i => (cluV c).length + 1 - i) (0) ⟨by skip; repeat (first | exact Agree.nil | refine Agree.cons rfl ?_), by skip; repeat (first | exact List.nil_sublist _ | exact List.Sublist.refl _ | apply List.Sublist.cons_cons | apply List.Sublist.cons)⟩ ?_ ?_
          · skip
            exact Nat.zero_le _
          intro i
          intro h1
          show TC _ _ _ (Env.of [(5, .sl 1 (encI (offP f (cluV c)))), (12, .sl 1 (encI (offP f (cluV c)))), (13, .v (.int .i64 i))]) []
          refine TC.seq ?_
          refine TC.seq ?_
          refine TC.region ?_
          refine TL.run1 (pure_move rfl) rfl ?_
          refine TL.run1 (pure_move rfl) rfl ?_
          first | refine TL.run1 (pure_len Ty.sl35 rfl) rfl ?_ | refine TL.run1 (pure_len_row Ty.sl35 rfl (by repeat (first | exact List.Mem.head _ | apply List.Mem.tail))) rfl ?_ | refine TL.run1 (pure_len_nil Ty.sl35 rfl) rfl ?_
          refine TL.run1 (pure_lss rfl rfl) rfl ?_
          refine TL.nil' ?_
          first | refine TC.condD rfl (fun hc88 => ?_) (fun hc88 => ?_) | refine TC.condN rfl (fun hc88 => ?_) (fun hc88 => ?_) | refine TC.cond rfl (fun hc88 => ?_) (fun hc88 => ?_)
          · try dsimp only at hc88
            refine TC.skip' ?_
            refine TC.seq ?_
            refine TC.block ?_
            have hrow : (encI (offP f (cluV c)))[((i : Nat) : Int).toNat]? = some [.v (.int .i64 (iAt (offP f (cluV c)) i))] := encI_get (offP f (cluV c)) i (by omega) (by omega)
            refine TC.drawCut [91, 92, 93, 94, 95, 96, 97, 98, 99, 100, 101, 102, 103, 104, 105, 106, 107, 108, 109, 110, 111, 112, 113, 114, 115] 115 (False) Ty.follows (by kernel_rfl) ?_ ?_
            · skip
              refine TD.run1 (pure_move rfl) rfl ?_
              refine TD.run1 (pure_move rfl) rfl ?_
              refine TD.run1 (pure_indexAddr Ty.sl35 rfl rfl (by omega) hrow (List.cons_ne_nil _ _)) rfl ?_
              first | refine TD.run1 (pure_load1 Ty.one3 rfl) rfl ?_ | refine TD.run1 (pure_load1_own Ty.one3 rfl (by repeat (first | exact List.Mem.head _ | apply List.Mem.tail)) (by repeat (first | exact DropR.zero _ | apply DropR.succ))) rfl ?_
              refine TD.run1 (pure_move rfl) rfl ?_
              refine TD.run1 (pure_move rfl) rfl ?_
              refine TD.run1 (pure_indexAddr Ty.sl35 rfl rfl (by omega) hrow (List.cons_ne_nil _ _)) rfl ?_
              first | refine TD.run1 (pure_load1 Ty.one3 rfl) rfl ?_ | refine TD.run1 (pure_load1_own Ty.one3 rfl (by repeat (first | exact List.Mem.head _ | apply List.Mem.tail)) (by repeat (first | exact DropR.zero _ | apply DropR.succ))) rfl ?_
              refine TD.run1 (pure_neq rfl rfl) rfl ?_
              refine TD.run1 (pure_move rfl) rfl ?_
              first | refine TD.splitP 100 rfl (fun hg100 => ?_) (fun hg100 => ?_) | refine TD.split 100 rfl (fun hg100 => ?_) (fun hg100 => ?_)
              · try dsimp only at hg100
                refine TD.passG rfl rfl rfl rfl ?_
                refine TD.passG rfl rfl rfl rfl ?_
                refine TD.passG rfl rfl rfl rfl ?_
                refine TD.passG rfl rfl rfl rfl ?_
                refine TD.passG rfl rfl rfl rfl ?_
                refine TD.passG rfl rfl rfl rfl ?_
                refine TD.passG rfl rfl rfl rfl ?_
                refine TD.passG rfl rfl rfl rfl ?_
                refine TD.passG rfl rfl rfl rfl ?_
                refine TD.passG rfl rfl rfl rfl ?_
                refine TD.passG rfl rfl rfl rfl ?_
                refine TD.passG rfl rfl rfl rfl ?_
                refine TD.passG rfl rfl rfl rfl ?_
                refine TD.passG rfl rfl rfl rfl ?_
                refine TD.run1 (pure_pick_true rfl rfl) rfl ?_
                refine TD.cutEnd (by repeat (first | exact Same.refl _ _ | refine Same.put rfl ?_)) rfl ?_
                first | (simp only [decide_eq_true_eq, iff_false, Bool.false_eq_true]; omega) | (simp; done) | (simp_all; done) | (simp_all; omega) | grind
              · try dsimp only at hg100
                refine TD.runG rfl rfl (pure_move rfl) rfl ?_
                refine TD.runG rfl rfl (pure_gtr rfl rfl) rfl ?_
                refine TD.runG rfl rfl (pure_move rfl) rfl ?_
                first | refine TD.splitP 103 rfl (fun hg103 => ?_) (fun hg103 => ?_) | refine TD.split 103 rfl (fun hg103 => ?_) (fun hg103 => ?_)
                · try dsimp only at hg103
                  have hi0 : (i : Int) > 0 := by (first | exact hg103 | simpa using hg103)
                  have hrow2 : (encI (offP f (cluV c)))[((i : Int) - 1).toNat]? = some [.v (.int .i64 (iAt (offP f (cluV c)) ((i : Int) - 1)))] := encI_get (offP f (cluV c)) ((i : Int) - 1) (by omega) (by omega)
                  have hmono : iAt (offP f (cluV c)) ((i : Int) - 1) ≤ iAt (offP f (cluV c)) i := by (rw [show (i : Int) - 1 = ((i - 1 : Nat) : Int) by omega, iAt_offP f (cluV c) (i - 1) (by omega), iAt_offP f (cluV c) i (by omega)]; exact wS_mono hfb hon (by omega) (by omega))
                  refine TD.runG rfl rfl (pure_move rfl) rfl ?_
                  refine TD.runG rfl rfl (pure_move rfl) rfl ?_
                  refine TD.runG rfl rfl (pure_indexAddr Ty.sl35 rfl rfl (by omega) hrow (List.cons_ne_nil _ _)) rfl ?_
                  first | refine TD.runG rfl rfl (pure_load1 Ty.one3 rfl) rfl ?_ | refine TD.runG rfl rfl (pure_load1_own Ty.one3 rfl (by repeat (first | exact List.Mem.head _ | apply List.Mem.tail)) (by repeat (first | exact DropR.zero _ | apply DropR.succ))) rfl ?_
                  refine TD.runG rfl rfl (pure_move rfl) rfl ?_
                  refine TD.runG rfl rfl (pure_move rfl) rfl ?_
                  refine TD.runG rfl rfl (pure_sub rfl rfl (mkI64 (by omega) (by omega))) rfl ?_
                  refine TD.runG rfl rfl (pure_indexAddr Ty.sl35 rfl rfl (by omega) hrow2 (List.cons_ne_nil _ _)) rfl ?_
                  first | refine TD.runG rfl rfl (pure_load1 Ty.one3 rfl) rfl ?_ | refine TD.runG rfl rfl (pure_load1_own Ty.one3 rfl (by repeat (first | exact List.Mem.head _ | apply List.Mem.tail)) (by repeat (first | exact DropR.zero _ | apply DropR.succ))) rfl ?_
                  refine TD.runG rfl rfl (pure_lss rfl rfl) rfl ?_
                  refine TD.runG rfl rfl (pure_pick_true rfl rfl) rfl ?_
                  refine TD.run1 (pure_pick_false rfl rfl) rfl ?_
                  refine TD.cutEnd (by repeat (first | exact Same.refl _ _ | refine Same.put rfl ?_)) rfl ?_
                  first | (simp only [decide_eq_true_eq, iff_false, Bool.false_eq_true]; omega) | (simp; done) | (simp_all; done) | (simp_all; omega) | grind
                · try dsimp only at hg103
                  refine TD.passG rfl rfl rfl rfl ?_
                  refine TD.passG rfl rfl rfl rfl ?_
                  refine TD.passG rfl rfl rfl rfl ?_
                  refine TD.passG rfl rfl rfl rfl ?_
                  refine TD.passG rfl rfl rfl rfl ?_
                  refine TD.passG rfl rfl rfl rfl ?_
                  refine TD.passG rfl rfl rfl rfl ?_
                  refine TD.passG rfl rfl rfl rfl ?_
                  refine TD.passG rfl rfl rfl rfl ?_
                  refine TD.passG rfl rfl rfl rfl ?_
                  refine TD.runG rfl rfl (pure_pick_false rfl rfl) rfl ?_
                  refine TD.run1 (pure_pick_false rfl rfl) rfl ?_
                  refine TD.cutEnd (by repeat (first | exact Same.refl _ _ | refine Same.put rfl ?_)) rfl ?_
                  first | (simp only [decide_eq_true_eq, iff_false, Bool.false_eq_true]; omega) | (simp; done) | (simp_all; done) | (simp_all; omega) | grind
            first | refine TC.condD rfl (fun hc115 => ?_) (fun hc115 => ?_) | refine TC.condN rfl (fun hc115 => ?_) (fun hc115 => ?_) | refine TC.cond rfl (fun hc115 => ?_) (fun hc115 => ?_)
            · try dsimp only at hc115
              all_goals exact hc115.elim
            · try dsimp only at hc115
              refine TC.skip ?_
              refine block_normal ?_
              refine then_normal ?_
              refine TC.region ?_
              refine TL.run1 (pure_move rfl) rfl ?_
              refine TL.run1 (pure_add rfl rfl (mkI64 (by omega) (by omega))) rfl ?_
              refine TL.run1 (pure_assign rfl) rfl ?_
              refine TL.nil ?_
              refine loop_next (i + 1) ⟨by ((try dsimp only); rw [show (((i + 1 : Nat)) : Int) = (i : Int) + 1 by omega]; repeat (first | exact Agree.nil | refine Agree.cons rfl ?_)), by repeat (first | exact List.nil_sublist _ | exact List.Sublist.refl _ | apply List.Sublist.cons_cons | apply List.Sublist.cons)⟩ (show i + 1 ≤ _ by omega) (by omega)
          · try dsimp only at hc88
            refine TC.exit ?_
            refine then_exit ?_
            refine loop_exit ?_
            refine block_here ?_
            refine then_normal ?_
            refine TC.seq ?_
            refine TC.region ?_
            refine TL.run1 (pure_assign rfl) rfl ?_
            refine TL.nil' ?_
            refine TC.ret ?_
            exact ret_bool rfl (by simp)
    · try dsimp only at hc38
      have hfb := errF_of hc38
      have hch := chk_bad hfb [c]
      obtain ⟨v1, v2, _⟩ := vbad (x := 0) (show chkV f [c] ≠ 0 by rw [hch]; decide)
      rw [v1, v2, hch, errF_bad hfb]
      refine TC.skip' ?_
      refine TC.seq ?_
      refine TC.seq ?_
      refine TC.region ?_
      refine TL.run1 (pure_move rfl) rfl ?_
      refine TL.run1 (pure_neq rfl rfl) rfl ?_
      refine TL.nil' ?_
      first | refine TC.condD rfl (fun hc41 => ?_) (fun hc41 => ?_) | refine TC.condN rfl (fun hc41 => ?_) (fun hc41 => ?_) | refine TC.cond rfl (fun hc41 => ?_) (fun hc41 => ?_)
      · try dsimp only at hc41
        refine TC.regionCut [42, 43, 44, 45, 46, 47, 48, 49, 50, 51, 52, 53, 54, 55, 56, 57, 58, 4] 4 (True) ?_ ?_
        · skip
          refine TL.run1 (pure_move rfl) rfl ?_
          first | refine TL.run1 (pure_len Ty.sl35 rfl) rfl ?_ | refine TL.run1 (pure_len_row Ty.sl35 rfl (by repeat (first | exact List.Mem.head _ | apply List.Mem.tail))) rfl ?_ | refine TL.run1 (pure_len_nil Ty.sl35 rfl) rfl ?_
          refine TL.run1 (pure_eql rfl rfl) rfl ?_
          refine TL.run1 (pure_move rfl) rfl ?_
          first | refine TL.splitP 45 rfl (fun hg45 => ?_) (fun hg45 => ?_) | refine TL.split 45 rfl (fun hg45 => ?_) (fun hg45 => ?_)
          · try dsimp only at hg45
            refine TL.runG rfl rfl (pure_move rfl) rfl ?_
            refine TL.runG rfl rfl (pure_move rfl) rfl ?_
            refine TL.runG rfl rfl (pure_eql rfl rfl) rfl ?_
            refine TL.run1 (pure_pick_true rfl rfl) rfl ?_
            refine TL.run1 (pure_move rfl) rfl ?_
            first | refine TL.splitP 50 rfl (fun hg50 => ?_) (fun hg50 => ?_) | refine TL.split 50 rfl (fun hg50 => ?_) (fun hg50 => ?_)
            · try dsimp only at hg50
              refine TL.runG rfl rfl (pure_move rfl) rfl ?_
              refine TL.runG rfl rfl (pure_eql rfl rfl) rfl ?_
              refine TL.run1 (pure_pick_true rfl rfl) rfl ?_
              refine TL.run1 (pure_move rfl) rfl ?_
              first | refine TL.splitP 54 rfl (fun hg54 => ?_) (fun hg54 => ?_) | refine TL.split 54 rfl (fun hg54 => ?_) (fun hg54 => ?_)
              · try dsimp only at hg54
                refine TL.runG rfl rfl (pure_move rfl) rfl ?_
                refine TL.runG rfl rfl (pure_move rfl) rfl ?_
                refine TL.runG rfl rfl (pure_eql rfl rfl) rfl ?_
                refine TL.run1 (pure_pick_true rfl rfl) rfl ?_
                refine TL.run1 (pure_assign rfl) rfl ?_
                refine TL.cutEnd (by repeat (first | exact Same.refl _ _ | refine Same.put rfl ?_)) rfl ?_
                first | rfl | (simp_all [encI, encT]; done) | (simp_all; omega) | grind
              · try dsimp only at hg54
                refine TL.passG rfl rfl rfl rfl ?_
                refine TL.passG rfl rfl rfl rfl ?_
                refine TL.passG rfl rfl rfl rfl ?_
                refine TL.run1 (pure_pick_false rfl rfl) rfl ?_
                refine TL.run1 (pure_assign rfl) rfl ?_
                refine TL.cutEnd (by repeat (first | exact Same.refl _ _ | refine Same.put rfl ?_)) rfl ?_
                first | rfl | (simp_all [encI, encT]; done) | (simp_all; omega) | grind
            · try dsimp only at hg50
              refine TL.passG rfl rfl rfl rfl ?_
              refine TL.passG rfl rfl rfl rfl ?_
              refine TL.run1 (pure_pick_false rfl rfl) rfl ?_
              refine TL.run1 (pure_move rfl) rfl ?_
              refine TL.passG rfl rfl rfl rfl ?_
              refine TL.passG rfl rfl rfl rfl ?_
              refine TL.passG rfl rfl rfl rfl ?_
              refine TL.run1 (pure_pick_false rfl rfl) rfl ?_
              refine TL.run1 (pure_assign rfl) rfl ?_
              refine TL.cutEnd (by repeat (first | exact Same.refl _ _ | refine Same.put rfl ?_)) rfl ?_
              first | rfl | (simp_all [encI, encT]; done) | (simp_all; omega) | grind
          · try dsimp only at hg45
            refine TL.passG rfl rfl rfl rfl ?_
            refine TL.passG rfl rfl rfl rfl ?_
            refine TL.passG rfl rfl rfl rfl ?_
            refine TL.run1 (pure_pick_false rfl rfl) rfl ?_
            refine TL.run1 (pure_move rfl) rfl ?_
            refine TL.passG rfl rfl rfl rfl ?_
            refine TL.passG rfl rfl rfl rfl ?_
            refine TL.run1 (pure_pick_false rfl rfl) rfl ?_
            refine TL.run1 (pure_move rfl) rfl ?_
            refine TL.passG rfl rfl rfl rfl ?_
            refine TL.passG rfl rfl rfl rfl ?_
            refine TL.passG rfl rfl rfl rfl ?_
            refine TL.run1 (pure_pick_false rfl rfl) rfl ?_
            refine TL.run1 (pure_assign rfl) rfl ?_
            refine TL.cutEnd (by repeat (first | exact Same.refl _ _ | refine Same.put rfl ?_)) rfl ?_
            first | rfl | (simp_all [encI, encT]; done) | (simp_all; omega) | grind
        refine TC.ret ?_
        refine then_ret ?_
        exact ret_bool rfl (by simp)
      · try dsimp only at hc41
        exact absurd (by decide) hc41
set_option maxRecDepth 100000 in
theorem MetricsFits_spec (f : Fo) (s : ByteArray) (x : Int) : Fun Tryd.prog 8 [.agg [.v (.int .i64 f.face), .v (.int .i64 f.size), .v (.int .i64 f.raise), .v (.bool f.bold)], .v (.string s), .v (.int .i64 x)] (.v (.bool true)) := by
  refine Fun.enter (n := 82) (rs := [.tmp 6]) Tryd.func8 rfl Tryd.ntmps8 Tryd.results8 rfl (fun w F => ?_)
  refine TC.seq ?_
  refine TC.region ?_
  refine TL.box rfl (.agg _) rfl (fun g3 => ?_)
  refine TL.run1 (pure_assign rfl) rfl ?_
  refine TL.nil' ?_
  refine TC.seq ?_
  refine TC.region ?_
  refine TL.run1 (pure_move rfl) rfl ?_
  refine TL.run1 (pure_call (cut_spec s) (.cons rfl .nil) Tryd.call12) rfl ?_
  refine TL.run1 (pure_assign rfl) rfl ?_
  refine TL.nil' ?_
  refine TC.seq ?_
  refine TC.seq ?_
  obtain ⟨c, hcd⟩ : ∃ c, cutT s = c := ⟨_, rfl⟩
  rw [hcd]
  have hcs : c.size ≤ 200 := hcd ▸ cutT_size s
  refine TC.region ?_
  refine TL.run1 (pure_call (known_spec) .nil Tryd.call13) rfl ?_
  refine TL.run1 (pure_not rfl) rfl ?_
  refine TL.nil' ?_
  first | refine TC.condD rfl (fun hc18 => ?_) (fun hc18 => ?_) | refine TC.condN rfl (fun hc18 => ?_) (fun hc18 => ?_) | refine TC.cond rfl (fun hc18 => ?_) (fun hc18 => ?_)
  · try dsimp only at hc18
    exact absurd hc18 (by simp)
  · try dsimp only at hc18
    refine TC.skip' ?_
    refine TC.seq ?_
    refine TC.region ?_
    first | refine TL.run1 (pure_load Ty.agg23 rfl (.succ (.succ (.succ (.succ (.zero _)))))) rfl ?_ | refine TL.run1 (pure_load_own Ty.agg23 rfl (by repeat (first | exact List.Mem.head _ | apply List.Mem.tail)) (by repeat (first | exact DropR.zero _ | apply DropR.succ)) (.succ (.succ (.succ (.succ (.zero _)))))) rfl ?_
    refine TL.run1 (pure_move rfl) rfl ?_
    refine TL.run1 (pure_move rfl) rfl ?_
    refine TL.run1 (pure_call (Fit_spec f c x (by omega)) (.cons rfl (.cons rfl (.cons rfl .nil))) Tryd.call24) rfl ?_
    refine TL.run1 (pure_move rfl) rfl ?_
    refine TL.run1 (pure_extract rfl rfl) rfl ?_
    refine TL.run1 (pure_extract rfl rfl) rfl ?_
    refine TL.run1 (pure_assign rfl) rfl ?_
    refine TL.run1 (pure_assign rfl) rfl ?_
    refine TL.nil' ?_
    refine TC.seq ?_
    refine TC.region ?_
    refine TL.run1 (pure_move rfl) rfl ?_
    refine TL.run1 (pure_call (Clusters_spec c (by omega)) (.cons rfl .nil) Tryd.call15) rfl ?_
    refine TL.run1 (pure_move rfl) rfl ?_
    refine TL.run1 (pure_extract rfl rfl) rfl ?_
    refine TL.run1 (pure_extract rfl rfl) rfl ?_
    refine TL.run1 (pure_assign rfl) rfl ?_
    refine TL.run1 (pure_assign rfl) rfl ?_
    refine TL.nil' ?_
    refine TC.seq ?_
    refine TC.seq ?_
    refine TC.region ?_
    first | refine TL.run1 (pure_load Ty.agg23 rfl (.succ (.succ (.succ (.succ (.zero _)))))) rfl ?_ | refine TL.run1 (pure_load_own Ty.agg23 rfl (by repeat (first | exact List.Mem.head _ | apply List.Mem.tail)) (by repeat (first | exact DropR.zero _ | apply DropR.succ)) (.succ (.succ (.succ (.succ (.zero _)))))) rfl ?_
    refine TL.run1 (pure_call (check_spec f) (.cons rfl .nil) Tryd.call16) rfl ?_
    refine TL.run1 (pure_assign rfl) rfl ?_
    refine TL.nil' ?_
    refine TC.regionCut [33, 34, 35, 36, 37, 38] 38 (errF f ≠ 0 ∨ errU c ≠ 0) ?_ ?_
    · skip
      refine TL.run1 (pure_move rfl) rfl ?_
      refine TL.run1 (pure_neq rfl rfl) rfl ?_
      refine TL.run1 (pure_move rfl) rfl ?_
      first | refine TL.splitP 35 rfl (fun hg35 => ?_) (fun hg35 => ?_) | refine TL.split 35 rfl (fun hg35 => ?_) (fun hg35 => ?_)
      · try dsimp only at hg35
        refine TL.passG rfl rfl rfl rfl ?_
        refine TL.passG rfl rfl rfl rfl ?_
        refine TL.run1 (pure_pick_true rfl rfl) rfl ?_
        refine TL.cutEnd (by repeat (first | exact Same.refl _ _ | refine Same.put rfl ?_)) rfl ?_
        first | (simp only [decide_eq_true_eq, Bool.false_eq_true, false_iff, true_iff, iff_true, iff_false, Bool.not_eq_true]; omega) | (simp_all; done) | (simp_all; omega) | grind
      · try dsimp only at hg35
        refine TL.runG rfl rfl (pure_move rfl) rfl ?_
        refine TL.runG rfl rfl (pure_neq rfl rfl) rfl ?_
        refine TL.run1 (pure_pick_false rfl rfl) rfl ?_
        refine TL.cutEnd (by repeat (first | exact Same.refl _ _ | refine Same.put rfl ?_)) rfl ?_
        first | (simp only [decide_eq_true_eq, Bool.false_eq_true, false_iff, true_iff, iff_true, iff_false, Bool.not_eq_true]; omega) | (simp_all; done) | (simp_all; omega) | grind
    first | refine TC.condD rfl (fun hc38 => ?_) (fun hc38 => ?_) | refine TC.condN rfl (fun hc38 => ?_) (fun hc38 => ?_) | refine TC.cond rfl (fun hc38 => ?_) (fun hc38 => ?_)
    · try dsimp only at hc38
      have hce := chk_errF (f := f) (s := c)
      obtain ⟨q1, q2⟩ := hce
      have hch : chkV f [c] ≠ 0 := by (by_cases h : errF f = 0; rw [q2 h]; exact (hc38.resolve_left (fun e => e h)); rw [q1 h]; exact h)
      obtain ⟨_, _, v3, v4⟩ := vbad (x := x) hch
      rw [v3]
      refine TC.regionCut [39, 40, 41, 42, 43, 44, 45, 46, 47, 48, 49, 50, 51, 52, 53, 54, 55, 56, 57, 58, 6] 6 (True) ?_ ?_
      · skip
        refine TL.run1 (pure_move rfl) rfl ?_
        refine TL.run1 (pure_eql rfl rfl) rfl ?_
        refine TL.run1 (pure_move rfl) rfl ?_
        first | refine TL.splitP 41 rfl (fun hg41 => ?_) (fun hg41 => ?_) | refine TL.split 41 rfl (fun hg41 => ?_) (fun hg41 => ?_)
        · try dsimp only at hg41
          refine TL.runG rfl rfl (pure_move rfl) rfl ?_
          refine TL.runG rfl rfl (pure_neq rfl rfl) rfl ?_
          refine TL.runG rfl rfl (pure_move rfl) rfl ?_
          first | refine TL.splitP 44 rfl (fun hg44 => ?_) (fun hg44 => ?_) | refine TL.split 44 rfl (fun hg44 => ?_) (fun hg44 => ?_)
          · try dsimp only at hg44
            refine TL.runG rfl rfl (pure_move rfl) rfl ?_
            refine TL.runG rfl rfl (pure_move rfl) rfl ?_
            refine TL.runG rfl rfl (pure_eql rfl rfl) rfl ?_
            refine TL.runG rfl rfl (pure_pick_true rfl rfl) rfl ?_
            refine TL.runG rfl rfl (pure_move rfl) rfl ?_
            first | refine TL.splitP 49 rfl (fun hg49 => ?_) (fun hg49 => ?_) | refine TL.split 49 rfl (fun hg49 => ?_) (fun hg49 => ?_)
            · try dsimp only at hg49
              refine TL.passG rfl rfl rfl rfl ?_
              refine TL.passG rfl rfl rfl rfl ?_
              refine TL.passG rfl rfl rfl rfl ?_
              refine TL.passG rfl rfl rfl rfl ?_
              refine TL.passG rfl rfl rfl rfl ?_
              refine TL.passG rfl rfl rfl rfl ?_
              refine TL.passG rfl rfl rfl rfl ?_
              refine TL.runG rfl rfl (pure_pick_true rfl rfl) rfl ?_
              refine TL.run1 (pure_pick_true rfl rfl) rfl ?_
              refine TL.run1 (pure_assign rfl) rfl ?_
              refine TL.cutEnd (by repeat (first | exact Same.refl _ _ | refine Same.put rfl ?_)) rfl ?_
              first | (simp_all; done) | (simp_all; omega) | grind
            · try dsimp only at hg49
              refine TL.runG rfl rfl (pure_move rfl) rfl ?_
              refine TL.runG rfl rfl (pure_eql rfl rfl) rfl ?_
              refine TL.runG rfl rfl (pure_move rfl) rfl ?_
              first | refine TL.splitP 52 rfl (fun hg52 => ?_) (fun hg52 => ?_) | refine TL.split 52 rfl (fun hg52 => ?_) (fun hg52 => ?_)
              · try dsimp only at hg52
                refine TL.runG rfl rfl (pure_move rfl) rfl ?_
                refine TL.runG rfl rfl (pure_move rfl) rfl ?_
                refine TL.runG rfl rfl (pure_eql rfl rfl) rfl ?_
                refine TL.runG rfl rfl (pure_pick_true rfl rfl) rfl ?_
                refine TL.runG rfl rfl (pure_pick_false rfl rfl) rfl ?_
                refine TL.run1 (pure_pick_true rfl rfl) rfl ?_
                refine TL.run1 (pure_assign rfl) rfl ?_
                refine TL.cutEnd (by repeat (first | exact Same.refl _ _ | refine Same.put rfl ?_)) rfl ?_
                first | (simp_all; done) | (simp_all; omega) | grind
              · try dsimp only at hg52
                refine TL.passG rfl rfl rfl rfl ?_
                refine TL.passG rfl rfl rfl rfl ?_
                refine TL.passG rfl rfl rfl rfl ?_
                refine TL.runG rfl rfl (pure_pick_false rfl rfl) rfl ?_
                refine TL.runG rfl rfl (pure_pick_false rfl rfl) rfl ?_
                refine TL.run1 (pure_pick_true rfl rfl) rfl ?_
                refine TL.run1 (pure_assign rfl) rfl ?_
                refine TL.cutEnd (by repeat (first | exact Same.refl _ _ | refine Same.put rfl ?_)) rfl ?_
                first | (simp_all; done) | (simp_all; omega) | grind
          · try dsimp only at hg44
            refine TL.passG rfl rfl rfl rfl ?_
            refine TL.passG rfl rfl rfl rfl ?_
            refine TL.passG rfl rfl rfl rfl ?_
            refine TL.runG rfl rfl (pure_pick_false rfl rfl) rfl ?_
            refine TL.runG rfl rfl (pure_move rfl) rfl ?_
            refine TL.runG rfl rfl (pure_move rfl) rfl ?_
            refine TL.runG rfl rfl (pure_eql rfl rfl) rfl ?_
            refine TL.runG rfl rfl (pure_move rfl) rfl ?_
            first | refine TL.splitP 52 rfl (fun hg52 => ?_) (fun hg52 => ?_) | refine TL.split 52 rfl (fun hg52 => ?_) (fun hg52 => ?_)
            · try dsimp only at hg52
              refine TL.runG rfl rfl (pure_move rfl) rfl ?_
              refine TL.runG rfl rfl (pure_move rfl) rfl ?_
              refine TL.runG rfl rfl (pure_eql rfl rfl) rfl ?_
              refine TL.runG rfl rfl (pure_pick_true rfl rfl) rfl ?_
              refine TL.runG rfl rfl (pure_pick_false rfl rfl) rfl ?_
              refine TL.run1 (pure_pick_true rfl rfl) rfl ?_
              refine TL.run1 (pure_assign rfl) rfl ?_
              refine TL.cutEnd (by repeat (first | exact Same.refl _ _ | refine Same.put rfl ?_)) rfl ?_
              first | (simp_all; done) | (simp_all; omega) | grind
            · try dsimp only at hg52
              refine TL.passG rfl rfl rfl rfl ?_
              refine TL.passG rfl rfl rfl rfl ?_
              refine TL.passG rfl rfl rfl rfl ?_
              refine TL.runG rfl rfl (pure_pick_false rfl rfl) rfl ?_
              refine TL.runG rfl rfl (pure_pick_false rfl rfl) rfl ?_
              refine TL.run1 (pure_pick_true rfl rfl) rfl ?_
              refine TL.run1 (pure_assign rfl) rfl ?_
              refine TL.cutEnd (by repeat (first | exact Same.refl _ _ | refine Same.put rfl ?_)) rfl ?_
              first | (simp_all; done) | (simp_all; omega) | grind
        · try dsimp only at hg41
          refine TL.passG rfl rfl rfl rfl ?_
          refine TL.passG rfl rfl rfl rfl ?_
          refine TL.passG rfl rfl rfl rfl ?_
          refine TL.passG rfl rfl rfl rfl ?_
          refine TL.passG rfl rfl rfl rfl ?_
          refine TL.passG rfl rfl rfl rfl ?_
          refine TL.passG rfl rfl rfl rfl ?_
          refine TL.passG rfl rfl rfl rfl ?_
          refine TL.passG rfl rfl rfl rfl ?_
          refine TL.passG rfl rfl rfl rfl ?_
          refine TL.passG rfl rfl rfl rfl ?_
          refine TL.passG rfl rfl rfl rfl ?_
          refine TL.passG rfl rfl rfl rfl ?_
          refine TL.passG rfl rfl rfl rfl ?_
          refine TL.passG rfl rfl rfl rfl ?_
          refine TL.passG rfl rfl rfl rfl ?_
          refine TL.run1 (pure_pick_false rfl rfl) rfl ?_
          refine TL.run1 (pure_assign rfl) rfl ?_
          refine TL.cutEnd (by repeat (first | exact Same.refl _ _ | refine Same.put rfl ?_)) rfl ?_
          first | (simp_all; done) | (simp_all; omega) | grind
      refine TC.ret ?_
      refine then_ret ?_
      exact ret_bool rfl (by simp)
    · try dsimp only at hc38
      have hfb := errF_not (fun h => hc38 (.inl h))
      have hok := errU_good (fun h => hc38 (.inr h))
      have hch := chk_one hfb hok
      obtain ⟨_, _, v3, v4⟩ := vok (x := x) hch
      rw [v3, hch]
      have hcz := cluV_len c
      have hkl := encI_len (offP f (cluV c))
      have hol := offP_len f (cluV c)
      have hon := clu_ones hok
      refine TC.skip' ?_
      refine TC.seq ?_
      refine TC.region ?_
      refine TL.run1 (pure_assign rfl) rfl ?_
      refine TL.nil' ?_
      refine TC.seq ?_
      refine TC.region ?_
      first | refine TL.run1 (pure_load Ty.agg23 rfl (.succ (.succ (.succ (.succ (.zero _)))))) rfl ?_ | refine TL.run1 (pure_load_own Ty.agg23 rfl (by repeat (first | exact List.Mem.head _ | apply List.Mem.tail)) (by repeat (first | exact DropR.zero _ | apply DropR.succ)) (.succ (.succ (.succ (.succ (.zero _)))))) rfl ?_
      refine TL.run1 (pure_move rfl) rfl ?_
      refine TL.run1 (pure_call (offsets_spec f c hfb hok (by omega)) (.cons rfl (.cons rfl .nil)) Tryd.call20) rfl ?_
      refine TL.run1 (pure_assign rfl) rfl ?_
      refine TL.nil' ?_
      refine TC.seq ?_
      refine TC.seq ?_
      refine TC.region ?_
      refine TL.run1 (pure_assign rfl) rfl ?_
      refine TL.nil' ?_
      refine TC.block ?_
      refine TC.loopX (X := Nat) (fun i => [(2, .v (.int .i64 x)), (7, .v (.int .i64 (fitP (offP f (cluV c)) x ((cluV c).length + 1)))), (8, .v (.int .i64 0)), (12, .v (.int .i64 (fitP (offP f (cluV c)) x i))), (13, .sl 1 (encI (offP f (cluV c)))), (14, .v (.int .i64 i))]) (fun i => []) (fun i => (i ≤ (cluV c).length + 1)) (fun i => (cluV c).length + 1 - i) (0) ⟨by skip; repeat (first | exact Agree.nil | refine Agree.cons rfl ?_), by skip; repeat (first | exact List.nil_sublist _ | exact List.Sublist.refl _ | apply List.Sublist.cons_cons | apply List.Sublist.cons)⟩ ?_ ?_
      · skip
        exact Nat.zero_le _
      intro i
      intro h1
      show TC _ _ _ (Env.of [(2, .v (.int .i64 x)), (7, .v (.int .i64 (fitP (offP f (cluV c)) x ((cluV c).length + 1)))), (8, .v (.int .i64 0)), (12, .v (.int .i64 (fitP (offP f (cluV c)) x i))), (13, .sl 1 (encI (offP f (cluV c)))), (14, .v (.int .i64 i))]) []
      refine TC.seq ?_
      refine TC.seq ?_
      refine TC.region ?_
      refine TL.run1 (pure_move rfl) rfl ?_
      refine TL.run1 (pure_move rfl) rfl ?_
      first | refine TL.run1 (pure_len Ty.sl35 rfl) rfl ?_ | refine TL.run1 (pure_len_row Ty.sl35 rfl (by repeat (first | exact List.Mem.head _ | apply List.Mem.tail))) rfl ?_ | refine TL.run1 (pure_len_nil Ty.sl35 rfl) rfl ?_
      refine TL.run1 (pure_lss rfl rfl) rfl ?_
      refine TL.nil' ?_
      first | refine TC.condD rfl (fun hc65 => ?_) (fun hc65 => ?_) | refine TC.condN rfl (fun hc65 => ?_) (fun hc65 => ?_) | refine TC.cond rfl (fun hc65 => ?_) (fun hc65 => ?_)
      · try dsimp only at hc65
        refine TC.skip' ?_
        refine TC.seq ?_
        refine TC.block ?_
        refine TC.seq ?_
        have hrow : (encI (offP f (cluV c)))[((i : Nat) : Int).toNat]? = some [.v (.int .i64 (iAt (offP f (cluV c)) i))] := encI_get (offP f (cluV c)) i (by omega) (by omega)
        refine TC.region ?_
        refine TL.run1 (pure_move rfl) rfl ?_
        refine TL.run1 (pure_move rfl) rfl ?_
        refine TL.run1 (pure_indexAddr Ty.sl35 rfl rfl (by omega) hrow (List.cons_ne_nil _ _)) rfl ?_
        first | refine TL.run1 (pure_load1 Ty.one3 rfl) rfl ?_ | refine TL.run1 (pure_load1_own Ty.one3 rfl (by repeat (first | exact List.Mem.head _ | apply List.Mem.tail)) (by repeat (first | exact DropR.zero _ | apply DropR.succ))) rfl ?_
        refine TL.run1 (pure_move rfl) rfl ?_
        refine TL.run1 (pure_leq rfl rfl) rfl ?_
        refine TL.nil' ?_
        first | refine TC.condD rfl (fun hc73 => ?_) (fun hc73 => ?_) | refine TC.condN rfl (fun hc73 => ?_) (fun hc73 => ?_) | refine TC.cond rfl (fun hc73 => ?_) (fun hc73 => ?_)
        · try dsimp only at hc73
          refine TC.region ?_
          refine TL.run1 (pure_move rfl) rfl ?_
          refine TL.run1 (pure_assign rfl) rfl ?_
          refine TL.nil ?_
          refine block_normal ?_
          refine then_normal ?_
          refine TC.region ?_
          refine TL.run1 (pure_move rfl) rfl ?_
          refine TL.run1 (pure_add rfl rfl (mkI64 (by omega) (by omega))) rfl ?_
          refine TL.run1 (pure_assign rfl) rfl ?_
          refine TL.nil ?_
          have hst : fitP (offP f (cluV c)) x (i + 1) = (i : Int) := by (rw [fitP, if_pos hc73])
          refine loop_next (i + 1) ⟨by ((try dsimp only); rw [hst, show (((i + 1 : Nat)) : Int) = (i : Int) + 1 by omega]; repeat (first | exact Agree.nil | refine Agree.cons rfl ?_)), by repeat (first | exact List.nil_sublist _ | exact List.Sublist.refl _ | apply List.Sublist.cons_cons | apply List.Sublist.cons)⟩ (show i + 1 ≤ _ by omega) (by omega)
        · try dsimp only at hc73
          refine TC.skip ?_
          refine block_normal ?_
          refine then_normal ?_
          refine TC.region ?_
          refine TL.run1 (pure_move rfl) rfl ?_
          refine TL.run1 (pure_add rfl rfl (mkI64 (by omega) (by omega))) rfl ?_
          refine TL.run1 (pure_assign rfl) rfl ?_
          refine TL.nil ?_
          have hst : fitP (offP f (cluV c)) x (i + 1) = fitP (offP f (cluV c)) x i := by (rw [fitP, if_neg hc73])
          refine loop_next (i + 1) ⟨by ((try dsimp only); rw [hst, show (((i + 1 : Nat)) : Int) = (i : Int) + 1 by omega]; repeat (first | exact Agree.nil | refine Agree.cons rfl ?_)), by repeat (first | exact List.nil_sublist _ | exact List.Sublist.refl _ | apply List.Sublist.cons_cons | apply List.Sublist.cons)⟩ (show i + 1 ≤ _ by omega) (by omega)
      · try dsimp only at hc65
        refine TC.exit ?_
        refine then_exit ?_
        refine loop_exit ?_
        refine block_here ?_
        refine then_normal ?_
        have hil : i = (cluV c).length + 1 := by omega
        rw [hil]
        refine TC.regionCut [75, 76, 77, 78, 79, 80, 81, 6] 6 (True) ?_ ?_
        · skip
          refine TL.run1 (pure_move rfl) rfl ?_
          refine TL.run1 (pure_move rfl) rfl ?_
          refine TL.run1 (pure_eql rfl rfl) rfl ?_
          refine TL.run1 (pure_move rfl) rfl ?_
          first | refine TL.splitP 78 rfl (fun hg78 => ?_) (fun hg78 => ?_) | refine TL.split 78 rfl (fun hg78 => ?_) (fun hg78 => ?_)
          · try dsimp only at hg78
            refine TL.runG rfl rfl (pure_move rfl) rfl ?_
            refine TL.runG rfl rfl (pure_eql rfl rfl) rfl ?_
            refine TL.run1 (pure_pick_true rfl rfl) rfl ?_
            refine TL.run1 (pure_assign rfl) rfl ?_
            refine TL.cutEnd (by repeat (first | exact Same.refl _ _ | refine Same.put rfl ?_)) rfl ?_
            first | rfl | (simp_all [encI, encT]; done) | (simp_all; omega) | grind
          · try dsimp only at hg78
            refine TL.passG rfl rfl rfl rfl ?_
            refine TL.passG rfl rfl rfl rfl ?_
            refine TL.run1 (pure_pick_false rfl rfl) rfl ?_
            refine TL.run1 (pure_assign rfl) rfl ?_
            refine TL.cutEnd (by repeat (first | exact Same.refl _ _ | refine Same.put rfl ?_)) rfl ?_
            first | rfl | (simp_all [encI, encT]; done) | (simp_all; omega) | grind
        refine TC.ret ?_
        exact ret_bool rfl (by simp)
set_option maxHeartbeats 1000000 in
set_option maxRecDepth 100000 in
theorem MetricsHits_spec (f : Fo) (s : ByteArray) (x : Int) : Fun Tryd.prog 10 [.agg [.v (.int .i64 f.face), .v (.int .i64 f.size), .v (.int .i64 f.raise), .v (.bool f.bold)], .v (.string s), .v (.int .i64 x)] (.v (.bool true)) := by
  refine Fun.enter (n := 104) (rs := [.tmp 6]) Tryd.func10 rfl Tryd.ntmps10 Tryd.results10 rfl (fun w F => ?_)
  refine TC.seq ?_
  refine TC.region ?_
  refine TL.box rfl (.agg _) rfl (fun g3 => ?_)
  refine TL.run1 (pure_assign rfl) rfl ?_
  refine TL.nil' ?_
  refine TC.seq ?_
  refine TC.region ?_
  refine TL.run1 (pure_move rfl) rfl ?_
  refine TL.run1 (pure_call (cut_spec s) (.cons rfl .nil) Tryd.call12) rfl ?_
  refine TL.run1 (pure_assign rfl) rfl ?_
  refine TL.nil' ?_
  refine TC.seq ?_
  refine TC.seq ?_
  obtain ⟨c, hcd⟩ : ∃ c, cutT s = c := ⟨_, rfl⟩
  rw [hcd]
  have hcs : c.size ≤ 200 := hcd ▸ cutT_size s
  refine TC.region ?_
  refine TL.run1 (pure_call (known_spec) .nil Tryd.call13) rfl ?_
  refine TL.run1 (pure_not rfl) rfl ?_
  refine TL.nil' ?_
  first | refine TC.condD rfl (fun hc18 => ?_) (fun hc18 => ?_) | refine TC.condN rfl (fun hc18 => ?_) (fun hc18 => ?_) | refine TC.cond rfl (fun hc18 => ?_) (fun hc18 => ?_)
  · try dsimp only at hc18
    exact absurd hc18 (by simp)
  · try dsimp only at hc18
    refine TC.skip' ?_
    refine TC.seq ?_
    refine TC.region ?_
    first | refine TL.run1 (pure_load Ty.agg23 rfl (.succ (.succ (.succ (.succ (.zero _)))))) rfl ?_ | refine TL.run1 (pure_load_own Ty.agg23 rfl (by repeat (first | exact List.Mem.head _ | apply List.Mem.tail)) (by repeat (first | exact DropR.zero _ | apply DropR.succ)) (.succ (.succ (.succ (.succ (.zero _)))))) rfl ?_
    refine TL.run1 (pure_move rfl) rfl ?_
    refine TL.run1 (pure_move rfl) rfl ?_
    refine TL.run1 (pure_call (Hit_spec f c x (by omega)) (.cons rfl (.cons rfl (.cons rfl .nil))) Tryd.call27) rfl ?_
    refine TL.run1 (pure_move rfl) rfl ?_
    refine TL.run1 (pure_extract rfl rfl) rfl ?_
    refine TL.run1 (pure_extract rfl rfl) rfl ?_
    refine TL.run1 (pure_assign rfl) rfl ?_
    refine TL.run1 (pure_assign rfl) rfl ?_
    refine TL.nil' ?_
    refine TC.seq ?_
    refine TC.region ?_
    refine TL.run1 (pure_move rfl) rfl ?_
    refine TL.run1 (pure_call (Clusters_spec c (by omega)) (.cons rfl .nil) Tryd.call15) rfl ?_
    refine TL.run1 (pure_move rfl) rfl ?_
    refine TL.run1 (pure_extract rfl rfl) rfl ?_
    refine TL.run1 (pure_extract rfl rfl) rfl ?_
    refine TL.run1 (pure_assign rfl) rfl ?_
    refine TL.run1 (pure_assign rfl) rfl ?_
    refine TL.nil' ?_
    refine TC.seq ?_
    refine TC.seq ?_
    refine TC.region ?_
    first | refine TL.run1 (pure_load Ty.agg23 rfl (.succ (.succ (.succ (.succ (.zero _)))))) rfl ?_ | refine TL.run1 (pure_load_own Ty.agg23 rfl (by repeat (first | exact List.Mem.head _ | apply List.Mem.tail)) (by repeat (first | exact DropR.zero _ | apply DropR.succ)) (.succ (.succ (.succ (.succ (.zero _)))))) rfl ?_
    refine TL.run1 (pure_call (check_spec f) (.cons rfl .nil) Tryd.call16) rfl ?_
    refine TL.run1 (pure_assign rfl) rfl ?_
    refine TL.nil' ?_
    refine TC.regionCut [33, 34, 35, 36, 37, 38] 38 (errF f ≠ 0 ∨ errU c ≠ 0) ?_ ?_
    · skip
      refine TL.run1 (pure_move rfl) rfl ?_
      refine TL.run1 (pure_neq rfl rfl) rfl ?_
      refine TL.run1 (pure_move rfl) rfl ?_
      first | refine TL.splitP 35 rfl (fun hg35 => ?_) (fun hg35 => ?_) | refine TL.split 35 rfl (fun hg35 => ?_) (fun hg35 => ?_)
      · try dsimp only at hg35
        refine TL.passG rfl rfl rfl rfl ?_
        refine TL.passG rfl rfl rfl rfl ?_
        refine TL.run1 (pure_pick_true rfl rfl) rfl ?_
        refine TL.cutEnd (by repeat (first | exact Same.refl _ _ | refine Same.put rfl ?_)) rfl ?_
        first | (simp only [decide_eq_true_eq, Bool.false_eq_true, false_iff, true_iff, iff_true, iff_false, Bool.not_eq_true]; omega) | (simp_all; done) | (simp_all; omega) | grind
      · try dsimp only at hg35
        refine TL.runG rfl rfl (pure_move rfl) rfl ?_
        refine TL.runG rfl rfl (pure_neq rfl rfl) rfl ?_
        refine TL.run1 (pure_pick_false rfl rfl) rfl ?_
        refine TL.cutEnd (by repeat (first | exact Same.refl _ _ | refine Same.put rfl ?_)) rfl ?_
        first | (simp only [decide_eq_true_eq, Bool.false_eq_true, false_iff, true_iff, iff_true, iff_false, Bool.not_eq_true]; omega) | (simp_all; done) | (simp_all; omega) | grind
    first | refine TC.condD rfl (fun hc38 => ?_) (fun hc38 => ?_) | refine TC.condN rfl (fun hc38 => ?_) (fun hc38 => ?_) | refine TC.cond rfl (fun hc38 => ?_) (fun hc38 => ?_)
    · try dsimp only at hc38
      have hce := chk_errF (f := f) (s := c)
      obtain ⟨q1, q2⟩ := hce
      have hch : chkV f [c] ≠ 0 := by (by_cases h : errF f = 0; rw [q2 h]; exact (hc38.resolve_left (fun e => e h)); rw [q1 h]; exact h)
      obtain ⟨_, _, v3, v4⟩ := vbad (x := x) hch
      rw [v4]
      refine TC.regionCut [39, 40, 41, 42, 43, 44, 45, 46, 47, 48, 49, 50, 51, 52, 53, 54, 55, 56, 57, 58, 6] 6 (True) ?_ ?_
      · skip
        refine TL.run1 (pure_move rfl) rfl ?_
        refine TL.run1 (pure_eql rfl rfl) rfl ?_
        refine TL.run1 (pure_move rfl) rfl ?_
        first | refine TL.splitP 41 rfl (fun hg41 => ?_) (fun hg41 => ?_) | refine TL.split 41 rfl (fun hg41 => ?_) (fun hg41 => ?_)
        · try dsimp only at hg41
          refine TL.runG rfl rfl (pure_move rfl) rfl ?_
          refine TL.runG rfl rfl (pure_neq rfl rfl) rfl ?_
          refine TL.runG rfl rfl (pure_move rfl) rfl ?_
          first | refine TL.splitP 44 rfl (fun hg44 => ?_) (fun hg44 => ?_) | refine TL.split 44 rfl (fun hg44 => ?_) (fun hg44 => ?_)
          · try dsimp only at hg44
            refine TL.runG rfl rfl (pure_move rfl) rfl ?_
            refine TL.runG rfl rfl (pure_move rfl) rfl ?_
            refine TL.runG rfl rfl (pure_eql rfl rfl) rfl ?_
            refine TL.runG rfl rfl (pure_pick_true rfl rfl) rfl ?_
            refine TL.runG rfl rfl (pure_move rfl) rfl ?_
            first | refine TL.splitP 49 rfl (fun hg49 => ?_) (fun hg49 => ?_) | refine TL.split 49 rfl (fun hg49 => ?_) (fun hg49 => ?_)
            · try dsimp only at hg49
              refine TL.passG rfl rfl rfl rfl ?_
              refine TL.passG rfl rfl rfl rfl ?_
              refine TL.passG rfl rfl rfl rfl ?_
              refine TL.passG rfl rfl rfl rfl ?_
              refine TL.passG rfl rfl rfl rfl ?_
              refine TL.passG rfl rfl rfl rfl ?_
              refine TL.passG rfl rfl rfl rfl ?_
              refine TL.runG rfl rfl (pure_pick_true rfl rfl) rfl ?_
              refine TL.run1 (pure_pick_true rfl rfl) rfl ?_
              refine TL.run1 (pure_assign rfl) rfl ?_
              refine TL.cutEnd (by repeat (first | exact Same.refl _ _ | refine Same.put rfl ?_)) rfl ?_
              first | (simp_all; done) | (simp_all; omega) | grind
            · try dsimp only at hg49
              refine TL.runG rfl rfl (pure_move rfl) rfl ?_
              refine TL.runG rfl rfl (pure_eql rfl rfl) rfl ?_
              refine TL.runG rfl rfl (pure_move rfl) rfl ?_
              first | refine TL.splitP 52 rfl (fun hg52 => ?_) (fun hg52 => ?_) | refine TL.split 52 rfl (fun hg52 => ?_) (fun hg52 => ?_)
              · try dsimp only at hg52
                refine TL.runG rfl rfl (pure_move rfl) rfl ?_
                refine TL.runG rfl rfl (pure_move rfl) rfl ?_
                refine TL.runG rfl rfl (pure_eql rfl rfl) rfl ?_
                refine TL.runG rfl rfl (pure_pick_true rfl rfl) rfl ?_
                refine TL.runG rfl rfl (pure_pick_false rfl rfl) rfl ?_
                refine TL.run1 (pure_pick_true rfl rfl) rfl ?_
                refine TL.run1 (pure_assign rfl) rfl ?_
                refine TL.cutEnd (by repeat (first | exact Same.refl _ _ | refine Same.put rfl ?_)) rfl ?_
                first | (simp_all; done) | (simp_all; omega) | grind
              · try dsimp only at hg52
                refine TL.passG rfl rfl rfl rfl ?_
                refine TL.passG rfl rfl rfl rfl ?_
                refine TL.passG rfl rfl rfl rfl ?_
                refine TL.runG rfl rfl (pure_pick_false rfl rfl) rfl ?_
                refine TL.runG rfl rfl (pure_pick_false rfl rfl) rfl ?_
                refine TL.run1 (pure_pick_true rfl rfl) rfl ?_
                refine TL.run1 (pure_assign rfl) rfl ?_
                refine TL.cutEnd (by repeat (first | exact Same.refl _ _ | refine Same.put rfl ?_)) rfl ?_
                first | (simp_all; done) | (simp_all; omega) | grind
          · try dsimp only at hg44
            refine TL.passG rfl rfl rfl rfl ?_
            refine TL.passG rfl rfl rfl rfl ?_
            refine TL.passG rfl rfl rfl rfl ?_
            refine TL.runG rfl rfl (pure_pick_false rfl rfl) rfl ?_
            refine TL.runG rfl rfl (pure_move rfl) rfl ?_
            refine TL.runG rfl rfl (pure_move rfl) rfl ?_
            refine TL.runG rfl rfl (pure_eql rfl rfl) rfl ?_
            refine TL.runG rfl rfl (pure_move rfl) rfl ?_
            first | refine TL.splitP 52 rfl (fun hg52 => ?_) (fun hg52 => ?_) | refine TL.split 52 rfl (fun hg52 => ?_) (fun hg52 => ?_)
            · try dsimp only at hg52
              refine TL.runG rfl rfl (pure_move rfl) rfl ?_
              refine TL.runG rfl rfl (pure_move rfl) rfl ?_
              refine TL.runG rfl rfl (pure_eql rfl rfl) rfl ?_
              refine TL.runG rfl rfl (pure_pick_true rfl rfl) rfl ?_
              refine TL.runG rfl rfl (pure_pick_false rfl rfl) rfl ?_
              refine TL.run1 (pure_pick_true rfl rfl) rfl ?_
              refine TL.run1 (pure_assign rfl) rfl ?_
              refine TL.cutEnd (by repeat (first | exact Same.refl _ _ | refine Same.put rfl ?_)) rfl ?_
              first | (simp_all; done) | (simp_all; omega) | grind
            · try dsimp only at hg52
              refine TL.passG rfl rfl rfl rfl ?_
              refine TL.passG rfl rfl rfl rfl ?_
              refine TL.passG rfl rfl rfl rfl ?_
              refine TL.runG rfl rfl (pure_pick_false rfl rfl) rfl ?_
              refine TL.runG rfl rfl (pure_pick_false rfl rfl) rfl ?_
              refine TL.run1 (pure_pick_true rfl rfl) rfl ?_
              refine TL.run1 (pure_assign rfl) rfl ?_
              refine TL.cutEnd (by repeat (first | exact Same.refl _ _ | refine Same.put rfl ?_)) rfl ?_
              first | (simp_all; done) | (simp_all; omega) | grind
        · try dsimp only at hg41
          refine TL.passG rfl rfl rfl rfl ?_
          refine TL.passG rfl rfl rfl rfl ?_
          refine TL.passG rfl rfl rfl rfl ?_
          refine TL.passG rfl rfl rfl rfl ?_
          refine TL.passG rfl rfl rfl rfl ?_
          refine TL.passG rfl rfl rfl rfl ?_
          refine TL.passG rfl rfl rfl rfl ?_
          refine TL.passG rfl rfl rfl rfl ?_
          refine TL.passG rfl rfl rfl rfl ?_
          refine TL.passG rfl rfl rfl rfl ?_
          refine TL.passG rfl rfl rfl rfl ?_
          refine TL.passG rfl rfl rfl rfl ?_
          refine TL.passG rfl rfl rfl rfl ?_
          refine TL.passG rfl rfl rfl rfl ?_
          refine TL.passG rfl rfl rfl rfl ?_
          refine TL.passG rfl rfl rfl rfl ?_
          refine TL.run1 (pure_pick_false rfl rfl) rfl ?_
          refine TL.run1 (pure_assign rfl) rfl ?_
          refine TL.cutEnd (by repeat (first | exact Same.refl _ _ | refine Same.put rfl ?_)) rfl ?_
          first | (simp_all; done) | (simp_all; omega) | grind
      refine TC.ret ?_
      refine then_ret ?_
      exact ret_bool rfl (by simp)
    · try dsimp only at hc38
      have hfb := errF_not (fun h => hc38 (.inl h))
      have hok := errU_good (fun h => hc38 (.inr h))
      have hch := chk_one hfb hok
      obtain ⟨_, _, v3, v4⟩ := vok (x := x) hch
      rw [v4, hch]
      have hcz := cluV_len c
      have hkl := encI_len (offP f (cluV c))
      have hol := offP_len f (cluV c)
      have hon := clu_ones hok
      refine TC.skip' ?_
      refine TC.seq ?_
      refine TC.region ?_
      first | refine TL.run1 (pure_load Ty.agg23 rfl (.succ (.succ (.succ (.succ (.zero _)))))) rfl ?_ | refine TL.run1 (pure_load_own Ty.agg23 rfl (by repeat (first | exact List.Mem.head _ | apply List.Mem.tail)) (by repeat (first | exact DropR.zero _ | apply DropR.succ)) (.succ (.succ (.succ (.succ (.zero _)))))) rfl ?_
      refine TL.run1 (pure_move rfl) rfl ?_
      refine TL.run1 (pure_call (offsets_spec f c hfb hok (by omega)) (.cons rfl (.cons rfl .nil)) Tryd.call20) rfl ?_
      refine TL.run1 (pure_assign rfl) rfl ?_
      refine TL.nil' ?_
      refine TC.seq ?_
      refine TC.region ?_
      refine TL.run1 (pure_assign rfl) rfl ?_
      refine TL.nil' ?_
      refine TC.seq ?_
      refine TC.seq ?_
      refine TC.region ?_
      refine TL.run1 (pure_assign rfl) rfl ?_
      refine TL.nil' ?_
      refine TC.block ?_
      refine TC.loopX (X := Nat) (fun i => [(2, .v (.int .i64 x)), (7, .v (.int .i64 ((hitP (offP f (cluV c)) (clampX x (lastW f c)) ((cluV c).length + 1)) : Nat))), (8, .v (.int .i64 0)), (12, .sl 1 (encI (offP f (cluV c)))), (13, .v (.int .i64 ((hitP (offP f (cluV c)) (clampX x (lastW f c)) i) : Nat))), (14, .v (.int .i64 i))]) (fun i => []) (fun i => (1 ≤ i) ∧ (i ≤ (cluV c).length + 1)) (fun i => (cluV c).length + 1 - i) (1) ⟨by (try dsimp only); rw [show (hitP (offP f (cluV c)) (clampX x (lastW f c)) 1) = 0 by (rw [hitP, hitP]; split <;> rfl)]; repeat (first | exact Agree.nil | refine Agree.cons rfl ?_), by skip; repeat (first | exact List.nil_sublist _ | exact List.Sublist.refl _ | apply List.Sublist.cons_cons | apply List.Sublist.cons)⟩ ?_ ?_
      · skip
        exact ⟨Nat.le_refl _, by omega⟩
      intro i
      rintro ⟨h0, h1⟩
      show TC _ _ _ (Env.of [(2, .v (.int .i64 x)), (7, .v (.int .i64 ((hitP (offP f (cluV c)) (clampX x (lastW f c)) ((cluV c).length + 1)) : Nat))), (8, .v (.int .i64 0)), (12, .sl 1 (encI (offP f (cluV c)))), (13, .v (.int .i64 ((hitP (offP f (cluV c)) (clampX x (lastW f c)) i) : Nat))), (14, .v (.int .i64 i))]) []
      have hhl := hitP_lt (offP f (cluV c)) (clampX x (lastW f c)) i (by omega)
      refine TC.seq ?_
      refine TC.seq ?_
      refine TC.region ?_
      refine TL.run1 (pure_move rfl) rfl ?_
      refine TL.run1 (pure_move rfl) rfl ?_
      first | refine TL.run1 (pure_len Ty.sl35 rfl) rfl ?_ | refine TL.run1 (pure_len_row Ty.sl35 rfl (by repeat (first | exact List.Mem.head _ | apply List.Mem.tail))) rfl ?_ | refine TL.run1 (pure_len_nil Ty.sl35 rfl) rfl ?_
      refine TL.run1 (pure_lss rfl rfl) rfl ?_
      refine TL.nil' ?_
      first | refine TC.condD rfl (fun hc65 => ?_) (fun hc65 => ?_) | refine TC.condN rfl (fun hc65 => ?_) (fun hc65 => ?_) | refine TC.cond rfl (fun hc65 => ?_) (fun hc65 => ?_)
      · try dsimp only at hc65
        refine TC.skip' ?_
        refine TC.seq ?_
        refine TC.block ?_
        have hrow : (encI (offP f (cluV c)))[((i : Nat) : Int).toNat]? = some [.v (.int .i64 (iAt (offP f (cluV c)) i))] := encI_get (offP f (cluV c)) i (by omega) (by omega)
        have hrow2 : (encI (offP f (cluV c)))[(((hitP (offP f (cluV c)) (clampX x (lastW f c)) i) : Nat) : Int).toNat]? = some [.v (.int .i64 (iAt (offP f (cluV c)) ((hitP (offP f (cluV c)) (clampX x (lastW f c)) i) : Nat)))] := encI_get (offP f (cluV c)) ((hitP (offP f (cluV c)) (clampX x (lastW f c)) i) : Nat) (by omega) (by omega)
        have hio := iAt_offP f (cluV c) i (by omega)
        have hib := iAt_offP f (cluV c) (hitP (offP f (cluV c)) (clampX x (lastW f c)) i) (by omega)
        have hw1 := wS_range hfb (cluV c) i
        have hwl := wS_range hfb (cluV c) (cluV c).length
        have hw2 : 0 ≤ iAt (offP f (cluV c)) i := by (rw [hio]; exact wS_nonneg hfb hon (by omega))
        have hw3 : 0 ≤ iAt (offP f (cluV c)) (hitP (offP f (cluV c)) (clampX x (lastW f c)) i) := by (rw [hib]; exact wS_nonneg hfb hon (by omega))
        have hw4 : iAt (offP f (cluV c)) (hitP (offP f (cluV c)) (clampX x (lastW f c)) i) ≤ iAt (offP f (cluV c)) i := by (rw [hib, hio]; exact wS_mono hfb hon (by omega) (by omega))
        have hw5 : iAt (offP f (cluV c)) i ≤ lastW f c := by (rw [hio]; exact wS_mono hfb hon (by omega) (Nat.le_refl _))
        have hlw : lastW f c ≤ 32761 * (cluV c).length := hwl.2
        have hkey := hit_key x (iAt (offP f (cluV c)) i) (iAt (offP f (cluV c)) (hitP (offP f (cluV c)) (clampX x (lastW f c)) i)) (lastW f c) hw3 hw4 hw5 (by omega)
        refine TC.drawCut [68, 69, 70, 71, 72, 73, 74, 75, 76, 77, 78, 79, 80, 81, 82, 83, 84, 85, 86, 87, 88, 89, 90, 91, 92, 93, 94, 95] 95 (absD (iAt (offP f (cluV c)) i) (clampX x (lastW f c)) < absD (iAt (offP f (cluV c)) (hitP (offP f (cluV c)) (clampX x (lastW f c)) i)) (clampX x (lastW f c))) Ty.follows (by kernel_rfl) ?_ ?_
        · skip
          refine TD.run1 (pure_move rfl) rfl ?_
          refine TD.run1 (pure_move rfl) rfl ?_
          refine TD.run1 (pure_move rfl) rfl ?_
          refine TD.run1 (pure_indexAddr Ty.sl35 rfl rfl (by omega) hrow (List.cons_ne_nil _ _)) rfl ?_
          first | refine TD.run1 (pure_load1 Ty.one3 rfl) rfl ?_ | refine TD.run1 (pure_load1_own Ty.one3 rfl (by repeat (first | exact List.Mem.head _ | apply List.Mem.tail)) (by repeat (first | exact DropR.zero _ | apply DropR.succ))) rfl ?_
          first | refine TD.run1 (pure_call (dist_spec x (iAt (offP f (cluV c)) i) hw2 (by omega)) (.cons rfl (.cons rfl .nil)) Tryd.call28) rfl ?_ | refine TD.run1 (pure_call (dist_spec x (iAt (offP f (cluV c)) (hitP (offP f (cluV c)) (clampX x (lastW f c)) i)) hw3 (by omega)) (.cons rfl (.cons rfl .nil)) Tryd.call28) rfl ?_
          refine TD.run1 (pure_move rfl) rfl ?_
          refine TD.run1 (pure_move rfl) rfl ?_
          refine TD.run1 (pure_move rfl) rfl ?_
          refine TD.run1 (pure_indexAddr Ty.sl35 rfl rfl (by omega) hrow2 (List.cons_ne_nil _ _)) rfl ?_
          first | refine TD.run1 (pure_load1 Ty.one3 rfl) rfl ?_ | refine TD.run1 (pure_load1_own Ty.one3 rfl (by repeat (first | exact List.Mem.head _ | apply List.Mem.tail)) (by repeat (first | exact DropR.zero _ | apply DropR.succ))) rfl ?_
          first | refine TD.run1 (pure_call (dist_spec x (iAt (offP f (cluV c)) i) hw2 (by omega)) (.cons rfl (.cons rfl .nil)) Tryd.call28) rfl ?_ | refine TD.run1 (pure_call (dist_spec x (iAt (offP f (cluV c)) (hitP (offP f (cluV c)) (clampX x (lastW f c)) i)) hw3 (by omega)) (.cons rfl (.cons rfl .nil)) Tryd.call28) rfl ?_
          refine TD.run1 (pure_lss rfl rfl) rfl ?_
          refine TD.run1 (pure_move rfl) rfl ?_
          first | refine TD.splitP 81 rfl (fun hg81 => ?_) (fun hg81 => ?_) | refine TD.split 81 rfl (fun hg81 => ?_) (fun hg81 => ?_)
          · try dsimp only at hg81
            refine TD.passG rfl rfl rfl rfl ?_
            refine TD.passG rfl rfl rfl rfl ?_
            refine TD.passG rfl rfl rfl rfl ?_
            refine TD.passG rfl rfl rfl rfl ?_
            refine TD.passG rfl rfl rfl rfl ?_
            refine TD.passG rfl rfl rfl rfl ?_
            refine TD.passG rfl rfl rfl rfl ?_
            refine TD.passG rfl rfl rfl rfl ?_
            refine TD.passG rfl rfl rfl rfl ?_
            refine TD.passG rfl rfl rfl rfl ?_
            refine TD.passG rfl rfl rfl rfl ?_
            refine TD.passG rfl rfl rfl rfl ?_
            refine TD.passG rfl rfl rfl rfl ?_
            refine TD.run1 (pure_pick_true rfl rfl) rfl ?_
            refine TD.cutEnd (by repeat (first | exact Same.refl _ _ | refine Same.put rfl ?_)) rfl ?_
            rw [← hkey]
            first | (simp only [decide_eq_true_eq, true_iff, iff_true, Bool.false_eq_true, false_iff]; omega) | (simp_all; done) | (simp_all; omega) | grind
          · try dsimp only at hg81
            refine TD.runG rfl rfl (pure_move rfl) rfl ?_
            refine TD.runG rfl rfl (pure_gtr rfl rfl) rfl ?_
            refine TD.runG rfl rfl (pure_move rfl) rfl ?_
            first | refine TD.splitP 84 rfl (fun hg84 => ?_) (fun hg84 => ?_) | refine TD.split 84 rfl (fun hg84 => ?_) (fun hg84 => ?_)
            · try dsimp only at hg84
              refine TD.runG rfl rfl (pure_move rfl) rfl ?_
              refine TD.runG rfl rfl (pure_move rfl) rfl ?_
              refine TD.runG rfl rfl (pure_indexAddr Ty.sl35 rfl rfl (by omega) hrow (List.cons_ne_nil _ _)) rfl ?_
              first | refine TD.runG rfl rfl (pure_load1 Ty.one3 rfl) rfl ?_ | refine TD.runG rfl rfl (pure_load1_own Ty.one3 rfl (by repeat (first | exact List.Mem.head _ | apply List.Mem.tail)) (by repeat (first | exact DropR.zero _ | apply DropR.succ))) rfl ?_
              refine TD.runG rfl rfl (pure_move rfl) rfl ?_
              refine TD.runG rfl rfl (pure_move rfl) rfl ?_
              refine TD.runG rfl rfl (pure_indexAddr Ty.sl35 rfl rfl (by omega) hrow2 (List.cons_ne_nil _ _)) rfl ?_
              first | refine TD.runG rfl rfl (pure_load1 Ty.one3 rfl) rfl ?_ | refine TD.runG rfl rfl (pure_load1_own Ty.one3 rfl (by repeat (first | exact List.Mem.head _ | apply List.Mem.tail)) (by repeat (first | exact DropR.zero _ | apply DropR.succ))) rfl ?_
              refine TD.runG rfl rfl (pure_gtr rfl rfl) rfl ?_
              refine TD.runG rfl rfl (pure_pick_true rfl rfl) rfl ?_
              refine TD.run1 (pure_pick_false rfl rfl) rfl ?_
              refine TD.cutEnd (by repeat (first | exact Same.refl _ _ | refine Same.put rfl ?_)) rfl ?_
              rw [← hkey]
              first | (simp only [decide_eq_true_eq, true_iff, iff_true, Bool.false_eq_true, false_iff]; omega) | (simp_all; done) | (simp_all; omega) | grind
            · try dsimp only at hg84
              refine TD.passG rfl rfl rfl rfl ?_
              refine TD.passG rfl rfl rfl rfl ?_
              refine TD.passG rfl rfl rfl rfl ?_
              refine TD.passG rfl rfl rfl rfl ?_
              refine TD.passG rfl rfl rfl rfl ?_
              refine TD.passG rfl rfl rfl rfl ?_
              refine TD.passG rfl rfl rfl rfl ?_
              refine TD.passG rfl rfl rfl rfl ?_
              refine TD.passG rfl rfl rfl rfl ?_
              refine TD.runG rfl rfl (pure_pick_false rfl rfl) rfl ?_
              refine TD.run1 (pure_pick_false rfl rfl) rfl ?_
              refine TD.cutEnd (by repeat (first | exact Same.refl _ _ | refine Same.put rfl ?_)) rfl ?_
              rw [← hkey]
              first | (simp only [decide_eq_true_eq, true_iff, iff_true, Bool.false_eq_true, false_iff]; omega) | (simp_all; done) | (simp_all; omega) | grind
        first | refine TC.condD rfl (fun hc95 => ?_) (fun hc95 => ?_) | refine TC.condN rfl (fun hc95 => ?_) (fun hc95 => ?_) | refine TC.cond rfl (fun hc95 => ?_) (fun hc95 => ?_)
        · try dsimp only at hc95
          refine TC.region ?_
          refine TL.run1 (pure_move rfl) rfl ?_
          refine TL.run1 (pure_assign rfl) rfl ?_
          refine TL.nil ?_
          refine block_normal ?_
          refine then_normal ?_
          refine TC.region ?_
          refine TL.run1 (pure_move rfl) rfl ?_
          refine TL.run1 (pure_add rfl rfl (mkI64 (by omega) (by omega))) rfl ?_
          refine TL.run1 (pure_assign rfl) rfl ?_
          refine TL.nil ?_
          have hst : (hitP (offP f (cluV c)) (clampX x (lastW f c)) (i + 1)) = i := by (rw [hitP, if_pos hc95])
          refine loop_next (i + 1) ⟨by ((try dsimp only); rw [hst, show (((i + 1 : Nat)) : Int) = (i : Int) + 1 by omega]; repeat (first | exact Agree.nil | refine Agree.cons rfl ?_)), by repeat (first | exact List.nil_sublist _ | exact List.Sublist.refl _ | apply List.Sublist.cons_cons | apply List.Sublist.cons)⟩ ⟨by omega, by omega⟩ (by omega)
        · try dsimp only at hc95
          refine TC.skip ?_
          refine block_normal ?_
          refine then_normal ?_
          refine TC.region ?_
          refine TL.run1 (pure_move rfl) rfl ?_
          refine TL.run1 (pure_add rfl rfl (mkI64 (by omega) (by omega))) rfl ?_
          refine TL.run1 (pure_assign rfl) rfl ?_
          refine TL.nil ?_
          have hst : (hitP (offP f (cluV c)) (clampX x (lastW f c)) (i + 1)) = (hitP (offP f (cluV c)) (clampX x (lastW f c)) i) := by (rw [hitP, if_neg hc95])
          refine loop_next (i + 1) ⟨by ((try dsimp only); rw [hst, show (((i + 1 : Nat)) : Int) = (i : Int) + 1 by omega]; repeat (first | exact Agree.nil | refine Agree.cons rfl ?_)), by repeat (first | exact List.nil_sublist _ | exact List.Sublist.refl _ | apply List.Sublist.cons_cons | apply List.Sublist.cons)⟩ ⟨by omega, by omega⟩ (by omega)
      · try dsimp only at hc65
        refine TC.exit ?_
        refine then_exit ?_
        refine loop_exit ?_
        refine block_here ?_
        refine then_normal ?_
        have hil : i = (cluV c).length + 1 := by omega
        rw [hil]
        refine TC.regionCut [97, 98, 99, 100, 101, 102, 103, 6] 6 (True) ?_ ?_
        · skip
          refine TL.run1 (pure_move rfl) rfl ?_
          refine TL.run1 (pure_move rfl) rfl ?_
          refine TL.run1 (pure_eql rfl rfl) rfl ?_
          refine TL.run1 (pure_move rfl) rfl ?_
          first | refine TL.splitP 100 rfl (fun hg100 => ?_) (fun hg100 => ?_) | refine TL.split 100 rfl (fun hg100 => ?_) (fun hg100 => ?_)
          · try dsimp only at hg100
            refine TL.runG rfl rfl (pure_move rfl) rfl ?_
            refine TL.runG rfl rfl (pure_eql rfl rfl) rfl ?_
            refine TL.run1 (pure_pick_true rfl rfl) rfl ?_
            refine TL.run1 (pure_assign rfl) rfl ?_
            refine TL.cutEnd (by repeat (first | exact Same.refl _ _ | refine Same.put rfl ?_)) rfl ?_
            first | rfl | (simp_all [encI, encT]; done) | (simp_all; omega) | grind
          · try dsimp only at hg100
            refine TL.passG rfl rfl rfl rfl ?_
            refine TL.passG rfl rfl rfl rfl ?_
            refine TL.run1 (pure_pick_false rfl rfl) rfl ?_
            refine TL.run1 (pure_assign rfl) rfl ?_
            refine TL.cutEnd (by repeat (first | exact Same.refl _ _ | refine Same.put rfl ?_)) rfl ?_
            first | rfl | (simp_all [encI, encT]; done) | (simp_all; omega) | grind
        refine TC.ret ?_
        exact ret_bool rfl (by simp)
end Go.Ob
