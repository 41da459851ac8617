import Derived.Test.YtkmgogabbefonaaDoorE7
set_option linter.unusedVariables false
set_option linter.unusedSimpArgs false
namespace Go.Ob
open Go.Proofs

theorem errF_bad {f : Fo} (h : FBad f) : errF f = 2 := by unfold errF; rw [if_pos h]
theorem errF_ok {f : Fo} (h : ¬ FBad f) : errF f = 0 := by unfold errF; rw [if_neg h]
theorem errF_of {f : Fo} (h : errF f ≠ 0) : FBad f := by
  by_cases hb : FBad f
  · exact hb
  · exact absurd (errF_ok hb) h
theorem errF_not {f : Fo} (h : ¬ errF f ≠ 0) : ¬ FBad f := fun hb => h (by rw [errF_bad hb]; decide)
theorem chk_bad {f : Fo} (h : FBad f) (l : List ByteArray) : chkV f l = 2 := by unfold chkV; rw [if_pos h]
theorem chk_utf {f : Fo} (h : ¬ FBad f) {l : List ByteArray} {s : ByteArray} (hs : s ∈ l) (hb : okS s = false) : chkV f l = 12 := by
  unfold chkV; rw [if_neg h, if_neg (fun h => by rw [h s hs] at hb; cases hb)]
theorem chk_ok {f : Fo} (h : ¬ FBad f) {l : List ByteArray} (hs : ∀ s ∈ l, okS s = true) : chkV f l = 0 := by
  unfold chkV; rw [if_neg h, if_pos hs]
theorem chk_one {f : Fo} (h : ¬ FBad f) {s : ByteArray} (hs : okS s = true) : chkV f [s] = 0 := chk_ok h (by intro x hx; rw [List.mem_singleton.1 hx]; exact hs)
theorem chk_two {f : Fo} (h : ¬ FBad f) {a b : ByteArray} (ha : okS a = true) (hb : okS b = true) : chkV f [a, b] = 0 := chk_ok h (by
  intro x hx
  simp only [List.mem_cons, List.mem_nil_iff, or_false] at hx
  rcases hx with rfl | rfl
  · exact ha
  · exact hb)
theorem errU_bad {s : ByteArray} (h : errU s ≠ 0) : okS s = false := by
  cases hb : okS s with
  | false => rfl
  | true => exact absurd (okV hb).2.2.2.2 h
theorem errU_good {s : ByteArray} (h : ¬ errU s ≠ 0) : okS s = true := by
  cases hb : okS s with
  | true => rfl
  | false => exact absurd (by rw [(badV hb).2.2.2.2]; decide) h
theorem wd_bad {f : Fo} {s : ByteArray} {n : Int} (h : chkV f [s] = n) (hn : n ≠ 0) : wdE f s = n ∧ wdV f s = 0 := by
  have he : wdE f s = n := by unfold wdE; rw [h, if_pos hn]
  exact ⟨he, by unfold wdV; rw [he, if_neg hn]⟩
theorem wd_zero {f : Fo} {s : ByteArray} (h : chkV f [s] = 0) (hn : (cluV s).length = 0) : wdE f s = 11 ∧ wdV f s = 0 := by
  have he : wdE f s = 11 := by unfold wdE; rw [if_neg (by omega), if_pos hn]
  exact ⟨he, by unfold wdV; rw [he]; rfl⟩
theorem wd_many {f : Fo} {s : ByteArray} (h : chkV f [s] = 0) (hn : (cluV s).length > 1) : wdE f s = 1 ∧ wdV f s = 0 := by
  have he : wdE f s = 1 := by unfold wdE; rw [if_neg (by omega), if_neg (by omega), if_pos hn]
  exact ⟨he, by unfold wdV; rw [he]; rfl⟩
theorem wd_one {f : Fo} {s : ByteArray} (h : chkV f [s] = 0) (hn : (cluV s).length = 1) : wdE f s = 0 ∧ wdV f s = widP f s := by
  have he : wdE f s = 0 := by unfold wdE; rw [if_neg (by omega), if_neg (by omega), if_neg (by omega)]
  exact ⟨he, by unfold wdV; rw [he, if_pos rfl]⟩
theorem ke_bad {f : Fo} {a b : ByteArray} (h : chkV f [a, b] ≠ 0) : keV f a b = 0 := by unfold keV; rw [if_neg (fun e => h e.1)]
theorem two_ok : ∀ t ∈ wideL ++ smallL, okS (t.extract 0 1) = true ∧ okS (t.extract 1 2) = true ∧ (cluV (t.extract 0 1)).length = 1 ∧ (cluV (t.extract 1 2)).length = 1 := by decide +kernel
theorem app_left {a b : ByteArray} {n : Nat} (h : a.size = n) : (a ++ b).extract 0 n = a := by
  subst h
  apply ByteArray.ext
  have e : a.size = a.data.size := rfl
  rw [ByteArray.data_extract, ByteArray.data_append, e]
  simp
theorem app_right {a b : ByteArray} {n m : Nat} (h : a.size = n) (h2 : n + b.size = m) : (a ++ b).extract n m = b := by
  subst h h2
  apply ByteArray.ext
  have e : a.size = a.data.size := rfl
  have e2 : b.size = b.data.size := rfl
  rw [ByteArray.data_extract, ByteArray.data_append, e, e2]
  apply Array.ext'
  rw [Array.toList_extract]
  simp only [Array.toList_append, List.extract_eq_take_drop, Array.size]
  rw [List.drop_left, Nat.add_sub_cancel_left, List.take_length]
theorem kK_pair {a b : ByteArray} (h : kK (a ++ b) ≠ 0) : (a ++ b) ∈ wideL ++ smallL := by
  by_cases h1 : (a ++ b) ∈ wideL
  · exact List.mem_append.2 (.inl h1)
  · by_cases h2 : (a ++ b) ∈ smallL
    · exact List.mem_append.2 (.inr h2)
    · exact absurd (kK_none h1 h2) h
/-- the kerning of the model, whatever the two strings are -/
theorem keV_eq {f : Fo} {a b : ByteArray} (hf : ¬ FBad f) (ha : okS a = true) (hb : okS b = true) : keV f a b = krL f a b := by
  unfold keV
  by_cases hc : (cluV a).length = 1 ∧ (cluV b).length = 1
  · rw [if_pos ⟨chk_two hf ha hb, hc⟩, krL_eq hc.1 hc.2]
  · rw [if_neg (fun h => hc h.2)]
    unfold krL krP
    split
    · rename_i h1
      by_cases hk : kK (a ++ b) = 0
      · rw [if_pos (.inl hk)]
      · exfalso
        have hp := kK_pair hk
        have hs := (kK_two hk).1
        rw [size_app] at hs
        obtain ⟨_, _, e3, e4⟩ := two_ok _ hp
        rw [app_left h1] at e3
        rw [app_right h1 (by omega)] at e4
        exact hc ⟨e3, e4⟩
    · rfl
theorem krL_le {f : Fo} (hf : ¬ FBad f) (a b : ByteArray) : krL f a b ≤ 0 := by
  have := krP_range hf a b
  unfold krL; split <;> omega
set_option maxRecDepth 100000 in
theorem MetricsGlue_spec (f : Fo) : Fun Tryd.prog 5 [.agg [.v (.int .i64 f.face), .v (.int .i64 f.size), .v (.int .i64 f.raise), .v (.bool f.bold)]] (.v (.bool true)) := by
  refine Fun.enter (n := 58) (rs := [.tmp 2]) Tryd.func5 rfl Tryd.ntmps5 Tryd.results5 rfl (fun w F => ?_)
  refine TC.seq ?_
  refine TC.region ?_
  refine TL.box rfl (.agg _) rfl (fun g1 => ?_)
  refine TL.run1 (pure_assign rfl) rfl ?_
  refine TL.nil' ?_
  refine TC.seq ?_
  refine TC.seq ?_
  refine TC.region ?_
  refine TL.run1 (pure_call (known_spec) .nil Tryd.call13) rfl ?_
  refine TL.run1 (pure_not rfl) rfl ?_
  refine TL.nil' ?_
  first | refine TC.condD rfl (fun hc10 => ?_) (fun hc10 => ?_) | refine TC.condN rfl (fun hc10 => ?_) (fun hc10 => ?_) | refine TC.cond rfl (fun hc10 => ?_) (fun hc10 => ?_)
  · try dsimp only at hc10
    exact absurd hc10 (by simp)
  · try dsimp only at hc10
    refine TC.skip' ?_
    refine TC.seq ?_
    refine TC.region ?_
    first | refine TL.run1 (pure_load Ty.agg23 rfl (.succ (.succ (.succ (.succ (.zero _)))))) rfl ?_ | refine TL.run1 (pure_load_own Ty.agg23 rfl (by repeat (first | exact List.Mem.head _ | apply List.Mem.tail)) (by repeat (first | exact DropR.zero _ | apply DropR.succ)) (.succ (.succ (.succ (.succ (.zero _)))))) rfl ?_
    refine TL.run1 (pure_call (Glue_spec f) (.cons rfl .nil) Tryd.call21) rfl ?_
    refine TL.run1 (pure_move rfl) rfl ?_
    refine TL.run1 (pure_extract rfl rfl) rfl ?_
    refine TL.run1 (pure_extract rfl rfl) rfl ?_
    refine TL.run1 (pure_extract rfl rfl) rfl ?_
    refine TL.run1 (pure_extract rfl rfl) rfl ?_
    refine TL.run1 (pure_assign rfl) rfl ?_
    refine TL.run1 (pure_assign rfl) rfl ?_
    refine TL.run1 (pure_assign rfl) rfl ?_
    refine TL.run1 (pure_assign rfl) rfl ?_
    refine TL.nil' ?_
    refine TC.seq ?_
    refine TC.seq ?_
    refine TC.region ?_
    first | refine TL.run1 (pure_load Ty.agg23 rfl (.succ (.succ (.succ (.succ (.zero _)))))) rfl ?_ | refine TL.run1 (pure_load_own Ty.agg23 rfl (by repeat (first | exact List.Mem.head _ | apply List.Mem.tail)) (by repeat (first | exact DropR.zero _ | apply DropR.succ)) (.succ (.succ (.succ (.succ (.zero _)))))) rfl ?_
    refine TL.run1 (pure_call (check_spec f) (.cons rfl .nil) Tryd.call16) rfl ?_
    refine TL.run1 (pure_assign rfl) rfl ?_
    refine TL.nil' ?_
    refine TC.seq ?_
    refine TC.region ?_
    refine TL.run1 (pure_move rfl) rfl ?_
    refine TL.run1 (pure_neq rfl rfl) rfl ?_
    refine TL.nil' ?_
    first | refine TC.condD rfl (fun hc21 => ?_) (fun hc21 => ?_) | refine TC.condN rfl (fun hc21 => ?_) (fun hc21 => ?_) | refine TC.cond rfl (fun hc21 => ?_) (fun hc21 => ?_)
    · try dsimp only at hc21
      have hfb := errF_of hc21
      have hg : glN f = 0 := by unfold glN; rw [if_pos hfb]
      rw [hg, errF_bad hfb]
      refine TC.regionCut [22, 23, 24, 25, 26, 27, 28, 29, 30, 31, 32, 33, 34, 35, 36, 2] 2 (True) ?_ ?_
      · skip
        refine TL.run1 (pure_move rfl) rfl ?_
        refine TL.run1 (pure_eql rfl rfl) rfl ?_
        refine TL.run1 (pure_move rfl) rfl ?_
        first | refine TL.splitP 24 rfl (fun hg24 => ?_) (fun hg24 => ?_) | refine TL.split 24 rfl (fun hg24 => ?_) (fun hg24 => ?_)
        · try dsimp only at hg24
          refine TL.runG rfl rfl (pure_move rfl) rfl ?_
          refine TL.runG rfl rfl (pure_eql rfl rfl) rfl ?_
          refine TL.run1 (pure_pick_true rfl rfl) rfl ?_
          refine TL.run1 (pure_move rfl) rfl ?_
          first | refine TL.splitP 28 rfl (fun hg28 => ?_) (fun hg28 => ?_) | refine TL.split 28 rfl (fun hg28 => ?_) (fun hg28 => ?_)
          · try dsimp only at hg28
            refine TL.runG rfl rfl (pure_move rfl) rfl ?_
            refine TL.runG rfl rfl (pure_eql rfl rfl) rfl ?_
            refine TL.run1 (pure_pick_true rfl rfl) rfl ?_
            refine TL.run1 (pure_move rfl) rfl ?_
            first | refine TL.splitP 32 rfl (fun hg32 => ?_) (fun hg32 => ?_) | refine TL.split 32 rfl (fun hg32 => ?_) (fun hg32 => ?_)
            · try dsimp only at hg32
              refine TL.runG rfl rfl (pure_move rfl) rfl ?_
              refine TL.runG rfl rfl (pure_move rfl) rfl ?_
              refine TL.runG rfl rfl (pure_eql rfl rfl) rfl ?_
              refine TL.run1 (pure_pick_true rfl rfl) rfl ?_
              refine TL.run1 (pure_assign rfl) rfl ?_
              refine TL.cutEnd (by repeat (first | exact Same.refl _ _ | refine Same.put rfl ?_)) rfl ?_
              first | rfl | (simp_all [encI, encT]; done) | (simp_all; omega) | grind
            · try dsimp only at hg32
              refine TL.passG rfl rfl rfl rfl ?_
              refine TL.passG rfl rfl rfl rfl ?_
              refine TL.passG rfl rfl rfl rfl ?_
              refine TL.run1 (pure_pick_false rfl rfl) rfl ?_
              refine TL.run1 (pure_assign rfl) rfl ?_
              refine TL.cutEnd (by repeat (first | exact Same.refl _ _ | refine Same.put rfl ?_)) rfl ?_
              first | rfl | (simp_all [encI, encT]; done) | (simp_all; omega) | grind
          · try dsimp only at hg28
            refine TL.passG rfl rfl rfl rfl ?_
            refine TL.passG rfl rfl rfl rfl ?_
            refine TL.run1 (pure_pick_false rfl rfl) rfl ?_
            refine TL.run1 (pure_move rfl) rfl ?_
            refine TL.passG rfl rfl rfl rfl ?_
            refine TL.passG rfl rfl rfl rfl ?_
            refine TL.passG rfl rfl rfl rfl ?_
            refine TL.run1 (pure_pick_false rfl rfl) rfl ?_
            refine TL.run1 (pure_assign rfl) rfl ?_
            refine TL.cutEnd (by repeat (first | exact Same.refl _ _ | refine Same.put rfl ?_)) rfl ?_
            first | rfl | (simp_all [encI, encT]; done) | (simp_all; omega) | grind
        · try dsimp only at hg24
          refine TL.passG rfl rfl rfl rfl ?_
          refine TL.passG rfl rfl rfl rfl ?_
          refine TL.run1 (pure_pick_false rfl rfl) rfl ?_
          refine TL.run1 (pure_move rfl) rfl ?_
          refine TL.passG rfl rfl rfl rfl ?_
          refine TL.passG rfl rfl rfl rfl ?_
          refine TL.run1 (pure_pick_false rfl rfl) rfl ?_
          refine TL.run1 (pure_move rfl) rfl ?_
          refine TL.passG rfl rfl rfl rfl ?_
          refine TL.passG rfl rfl rfl rfl ?_
          refine TL.passG rfl rfl rfl rfl ?_
          refine TL.run1 (pure_pick_false rfl rfl) rfl ?_
          refine TL.run1 (pure_assign rfl) rfl ?_
          refine TL.cutEnd (by repeat (first | exact Same.refl _ _ | refine Same.put rfl ?_)) rfl ?_
          first | rfl | (simp_all [encI, encT]; done) | (simp_all; omega) | grind
      refine TC.ret ?_
      refine then_ret ?_
      exact ret_bool rfl (by simp)
    · try dsimp only at hc21
      have hfb := errF_not hc21
      have hg : glN f = widP f spS := by unfold glN; rw [if_neg hfb]
      rw [hg, errF_ok hfb]
      have hwr := widP_range hfb spS
      refine TC.skip' ?_
      refine TC.seq ?_
      refine TC.region ?_
      first | refine TL.run1 (pure_load Ty.agg23 rfl (.succ (.succ (.succ (.succ (.zero _)))))) rfl ?_ | refine TL.run1 (pure_load_own Ty.agg23 rfl (by repeat (first | exact List.Mem.head _ | apply List.Mem.tail)) (by repeat (first | exact DropR.zero _ | apply DropR.succ)) (.succ (.succ (.succ (.succ (.zero _)))))) rfl ?_
      refine TL.run1 (pure_call (lwidth_spec f spS hfb) (.cons rfl (.cons rfl .nil)) Tryd.call17) rfl ?_
      refine TL.run1 (pure_assign rfl) rfl ?_
      refine TL.nil' ?_
      refine TC.regionCut [39, 40, 41, 42, 43, 44, 45, 46, 47, 48, 49, 50, 51, 52, 53, 54, 55, 56, 57, 2] 2 (True) ?_ ?_
      · skip
        refine TL.run1 (pure_move rfl) rfl ?_
        refine TL.run1 (pure_move rfl) rfl ?_
        refine TL.run1 (pure_eql rfl rfl) rfl ?_
        refine TL.run1 (pure_move rfl) rfl ?_
        first | refine TL.splitP 42 rfl (fun hg42 => ?_) (fun hg42 => ?_) | refine TL.split 42 rfl (fun hg42 => ?_) (fun hg42 => ?_)
        · try dsimp only at hg42
          refine TL.runG rfl rfl (pure_move rfl) rfl ?_
          refine TL.runG rfl rfl (pure_move rfl) rfl ?_
          refine TL.runG rfl rfl (pure_quo rfl rfl (by omega) (by omega) (by omega)) rfl ?_
          refine TL.runG rfl rfl (pure_eql rfl rfl) rfl ?_
          refine TL.run1 (pure_pick_true rfl rfl) rfl ?_
          refine TL.run1 (pure_move rfl) rfl ?_
          first | refine TL.splitP 48 rfl (fun hg48 => ?_) (fun hg48 => ?_) | refine TL.split 48 rfl (fun hg48 => ?_) (fun hg48 => ?_)
          · try dsimp only at hg48
            refine TL.runG rfl rfl (pure_move rfl) rfl ?_
            refine TL.runG rfl rfl (pure_move rfl) rfl ?_
            refine TL.runG rfl rfl (pure_quo rfl rfl (by omega) (by omega) (by omega)) rfl ?_
            refine TL.runG rfl rfl (pure_eql rfl rfl) rfl ?_
            refine TL.run1 (pure_pick_true rfl rfl) rfl ?_
            refine TL.run1 (pure_move rfl) rfl ?_
            first | refine TL.splitP 54 rfl (fun hg54 => ?_) (fun hg54 => ?_) | refine TL.split 54 rfl (fun hg54 => ?_) (fun hg54 => ?_)
            · try dsimp only at hg54
              refine TL.runG rfl rfl (pure_move rfl) rfl ?_
              refine TL.runG rfl rfl (pure_eql rfl rfl) rfl ?_
              refine TL.run1 (pure_pick_true rfl rfl) rfl ?_
              refine TL.run1 (pure_assign rfl) rfl ?_
              refine TL.cutEnd (by repeat (first | exact Same.refl _ _ | refine Same.put rfl ?_)) rfl ?_
              first | rfl | (simp_all [encI, encT]; done) | (simp_all; omega) | grind
            · try dsimp only at hg54
              refine TL.passG rfl rfl rfl rfl ?_
              refine TL.passG rfl rfl rfl rfl ?_
              refine TL.run1 (pure_pick_false rfl rfl) rfl ?_
              refine TL.run1 (pure_assign rfl) rfl ?_
              refine TL.cutEnd (by repeat (first | exact Same.refl _ _ | refine Same.put rfl ?_)) rfl ?_
              first | rfl | (simp_all [encI, encT]; done) | (simp_all; omega) | grind
          · try dsimp only at hg48
            refine TL.passG rfl rfl rfl rfl ?_
            refine TL.passG rfl rfl rfl rfl ?_
            refine TL.passG rfl rfl rfl rfl ?_
            refine TL.passG rfl rfl rfl rfl ?_
            refine TL.run1 (pure_pick_false rfl rfl) rfl ?_
            refine TL.run1 (pure_move rfl) rfl ?_
            refine TL.passG rfl rfl rfl rfl ?_
            refine TL.passG rfl rfl rfl rfl ?_
            refine TL.run1 (pure_pick_false rfl rfl) rfl ?_
            refine TL.run1 (pure_assign rfl) rfl ?_
            refine TL.cutEnd (by repeat (first | exact Same.refl _ _ | refine Same.put rfl ?_)) rfl ?_
            first | rfl | (simp_all [encI, encT]; done) | (simp_all; omega) | grind
        · try dsimp only at hg42
          refine TL.passG rfl rfl rfl rfl ?_
          refine TL.passG rfl rfl rfl rfl ?_
          refine TL.passG rfl rfl rfl rfl ?_
          refine TL.passG rfl rfl rfl rfl ?_
          refine TL.run1 (pure_pick_false rfl rfl) rfl ?_
          refine TL.run1 (pure_move rfl) rfl ?_
          refine TL.passG rfl rfl rfl rfl ?_
          refine TL.passG rfl rfl rfl rfl ?_
          refine TL.passG rfl rfl rfl rfl ?_
          refine TL.passG rfl rfl rfl rfl ?_
          refine TL.run1 (pure_pick_false rfl rfl) rfl ?_
          refine TL.run1 (pure_move rfl) rfl ?_
          refine TL.passG rfl rfl rfl rfl ?_
          refine TL.passG rfl rfl rfl rfl ?_
          refine TL.run1 (pure_pick_false rfl rfl) rfl ?_
          refine TL.run1 (pure_assign rfl) rfl ?_
          refine TL.cutEnd (by repeat (first | exact Same.refl _ _ | refine Same.put rfl ?_)) rfl ?_
          first | rfl | (simp_all [encI, encT]; done) | (simp_all; omega) | grind
      refine TC.ret ?_
      exact ret_bool rfl (by simp)
set_option maxRecDepth 100000 in
theorem MetricsWidths_spec (f : Fo) (s : ByteArray) : Fun Tryd.prog 3 [.agg [.v (.int .i64 f.face), .v (.int .i64 f.size), .v (.int .i64 f.raise), .v (.bool f.bold)], .v (.string s)] (.v (.bool true)) := by
  refine Fun.enter (n := 60) (rs := [.tmp 4]) Tryd.func3 rfl Tryd.ntmps3 Tryd.results3 rfl (fun w F => ?_)
  refine TC.seq ?_
  refine TC.region ?_
  refine TL.box rfl (.agg _) rfl (fun g2 => ?_)
  refine TL.run1 (pure_assign rfl) rfl ?_
  refine TL.nil' ?_
  refine TC.seq ?_
  refine TC.region ?_
  refine TL.run1 (pure_move rfl) rfl ?_
  refine TL.run1 (pure_call (cut_spec s) (.cons rfl .nil) Tryd.call12) rfl ?_
  refine TL.run1 (pure_assign rfl) rfl ?_
  refine TL.nil' ?_
  refine TC.seq ?_
  refine TC.seq ?_
  obtain ⟨c, hcd⟩ : ∃ c, cutT s = c := ⟨_, rfl⟩
  rw [hcd]
  have hcs : c.size ≤ 200 := hcd ▸ cutT_size s
  refine TC.region ?_
  refine TL.run1 (pure_call (known_spec) .nil Tryd.call13) rfl ?_
  refine TL.run1 (pure_not rfl) rfl ?_
  refine TL.nil' ?_
  first | refine TC.condD rfl (fun hc13 => ?_) (fun hc13 => ?_) | refine TC.condN rfl (fun hc13 => ?_) (fun hc13 => ?_) | refine TC.cond rfl (fun hc13 => ?_) (fun hc13 => ?_)
  · try dsimp only at hc13
    exact absurd hc13 (by simp)
  · try dsimp only at hc13
    refine TC.skip' ?_
    refine TC.seq ?_
    refine TC.region ?_
    first | refine TL.run1 (pure_load Ty.agg23 rfl (.succ (.succ (.succ (.succ (.zero _)))))) rfl ?_ | refine TL.run1 (pure_load_own Ty.agg23 rfl (by repeat (first | exact List.Mem.head _ | apply List.Mem.tail)) (by repeat (first | exact DropR.zero _ | apply DropR.succ)) (.succ (.succ (.succ (.succ (.zero _)))))) rfl ?_
    refine TL.run1 (pure_move rfl) rfl ?_
    refine TL.run1 (pure_call (Width_spec f c (by omega)) (.cons rfl (.cons rfl .nil)) Tryd.call14) rfl ?_
    refine TL.run1 (pure_move rfl) rfl ?_
    refine TL.run1 (pure_extract rfl rfl) rfl ?_
    refine TL.run1 (pure_extract rfl rfl) rfl ?_
    refine TL.run1 (pure_assign rfl) rfl ?_
    refine TL.run1 (pure_assign rfl) rfl ?_
    refine TL.nil' ?_
    refine TC.seq ?_
    refine TC.region ?_
    refine TL.run1 (pure_move rfl) rfl ?_
    refine TL.run1 (pure_call (Clusters_spec c (by omega)) (.cons rfl .nil) Tryd.call15) rfl ?_
    refine TL.run1 (pure_move rfl) rfl ?_
    refine TL.run1 (pure_extract rfl rfl) rfl ?_
    refine TL.run1 (pure_extract rfl rfl) rfl ?_
    refine TL.run1 (pure_assign rfl) rfl ?_
    refine TL.run1 (pure_assign rfl) rfl ?_
    refine TL.nil' ?_
    refine TC.seq ?_
    refine TC.region ?_
    first | refine TL.run1 (pure_load Ty.agg23 rfl (.succ (.succ (.succ (.succ (.zero _)))))) rfl ?_ | refine TL.run1 (pure_load_own Ty.agg23 rfl (by repeat (first | exact List.Mem.head _ | apply List.Mem.tail)) (by repeat (first | exact DropR.zero _ | apply DropR.succ)) (.succ (.succ (.succ (.succ (.zero _)))))) rfl ?_
    refine TL.run1 (pure_call (check_spec f) (.cons rfl .nil) Tryd.call16) rfl ?_
    refine TL.run1 (pure_assign rfl) rfl ?_
    refine TL.nil' ?_
    refine TC.seq ?_
    refine TC.block ?_
    refine TC.seq ?_
    have hkl := encT_len (cluV c)
    refine TC.region ?_
    refine TL.run1 (pure_move rfl) rfl ?_
    refine TL.run1 (pure_neq rfl rfl) rfl ?_
    refine TL.run1 (pure_assign rfl) rfl ?_
    refine TL.nil' ?_
    first | refine TC.condD rfl (fun hc27 => ?_) (fun hc27 => ?_) | refine TC.condN rfl (fun hc27 => ?_) (fun hc27 => ?_) | refine TC.cond rfl (fun hc27 => ?_) (fun hc27 => ?_)
    · try dsimp only at hc27
      have hfb := errF_of hc27
      obtain ⟨e1, e2⟩ := wd_bad (chk_bad hfb [c]) (by decide)
      rw [e1, e2, errF_bad hfb]
      refine TC.skip ?_
      refine block_normal ?_
      refine then_normal ?_
      refine TC.seq ?_
      refine TC.seq ?_
      refine TC.region ?_
      refine TL.run1 (pure_move rfl) rfl ?_
      refine TL.run1 (pure_neq rfl rfl) rfl ?_
      refine TL.nil' ?_
      first | refine TC.condD rfl (fun hc43 => ?_) (fun hc43 => ?_) | refine TC.condN rfl (fun hc43 => ?_) (fun hc43 => ?_) | refine TC.cond rfl (fun hc43 => ?_) (fun hc43 => ?_)
      · try dsimp only at hc43
        refine TC.regionCut [44, 45, 46, 47, 48, 49, 50, 4] 4 (True) ?_ ?_
        · skip
          refine TL.run1 (pure_move rfl) rfl ?_
          refine TL.run1 (pure_eql rfl rfl) rfl ?_
          refine TL.run1 (pure_move rfl) rfl ?_
          first | refine TL.splitP 46 rfl (fun hg46 => ?_) (fun hg46 => ?_) | refine TL.split 46 rfl (fun hg46 => ?_) (fun hg46 => ?_)
          · try dsimp only at hg46
            refine TL.runG rfl rfl (pure_move rfl) rfl ?_
            refine TL.runG rfl rfl (pure_move rfl) rfl ?_
            refine TL.runG rfl rfl (pure_eql rfl rfl) rfl ?_
            refine TL.run1 (pure_pick_true rfl rfl) rfl ?_
            refine TL.run1 (pure_assign rfl) rfl ?_
            refine TL.cutEnd (by repeat (first | exact Same.refl _ _ | refine Same.put rfl ?_)) rfl ?_
            first | rfl | (simp_all [encI, encT]; done) | (simp_all; omega) | grind
          · try dsimp only at hg46
            refine TL.passG rfl rfl rfl rfl ?_
            refine TL.passG rfl rfl rfl rfl ?_
            refine TL.passG rfl rfl rfl rfl ?_
            refine TL.run1 (pure_pick_false rfl rfl) rfl ?_
            refine TL.run1 (pure_assign rfl) rfl ?_
            refine TL.cutEnd (by repeat (first | exact Same.refl _ _ | refine Same.put rfl ?_)) rfl ?_
            first | rfl | (simp_all [encI, encT]; done) | (simp_all; omega) | grind
        refine TC.ret ?_
        refine then_ret ?_
        exact ret_bool rfl (by simp)
      · try dsimp only at hc43
        exact absurd (by decide) hc43
    · try dsimp only at hc27
      have hfb := errF_not hc27
      rw [errF_ok hfb]
      refine TC.seq ?_
      refine TC.region ?_
      refine TL.run1 (pure_move rfl) rfl ?_
      refine TL.run1 (pure_neq rfl rfl) rfl ?_
      refine TL.run1 (pure_assign rfl) rfl ?_
      refine TL.nil' ?_
      first | refine TC.condD rfl (fun hc30 => ?_) (fun hc30 => ?_) | refine TC.condN rfl (fun hc30 => ?_) (fun hc30 => ?_) | refine TC.cond rfl (fun hc30 => ?_) (fun hc30 => ?_)
      · try dsimp only at hc30
        have hok := errU_bad hc30
        obtain ⟨e1, e2⟩ := wd_bad (chk_utf hfb (List.mem_singleton.2 rfl) hok) (by decide)
        rw [e1, e2, (badV hok).2.2.2.2]
        refine TC.region ?_
        refine TL.run1 (pure_move rfl) rfl ?_
        refine TL.run1 (pure_assign rfl) rfl ?_
        refine TL.nil ?_
        refine block_normal ?_
        refine then_normal ?_
        refine TC.seq ?_
        refine TC.seq ?_
        refine TC.region ?_
        refine TL.run1 (pure_move rfl) rfl ?_
        refine TL.run1 (pure_neq rfl rfl) rfl ?_
        refine TL.nil' ?_
        first | refine TC.condD rfl (fun hc43 => ?_) (fun hc43 => ?_) | refine TC.condN rfl (fun hc43 => ?_) (fun hc43 => ?_) | refine TC.cond rfl (fun hc43 => ?_) (fun hc43 => ?_)
        · try dsimp only at hc43
          refine TC.regionCut [44, 45, 46, 47, 48, 49, 50, 4] 4 (True) ?_ ?_
          · skip
            refine TL.run1 (pure_move rfl) rfl ?_
            refine TL.run1 (pure_eql rfl rfl) rfl ?_
            refine TL.run1 (pure_move rfl) rfl ?_
            first | refine TL.splitP 46 rfl (fun hg46 => ?_) (fun hg46 => ?_) | refine TL.split 46 rfl (fun hg46 => ?_) (fun hg46 => ?_)
            · try dsimp only at hg46
              refine TL.runG rfl rfl (pure_move rfl) rfl ?_
              refine TL.runG rfl rfl (pure_move rfl) rfl ?_
              refine TL.runG rfl rfl (pure_eql rfl rfl) rfl ?_
              refine TL.run1 (pure_pick_true rfl rfl) rfl ?_
              refine TL.run1 (pure_assign rfl) rfl ?_
              refine TL.cutEnd (by repeat (first | exact Same.refl _ _ | refine Same.put rfl ?_)) rfl ?_
              first | rfl | (simp_all [encI, encT]; done) | (simp_all; omega) | grind
            · try dsimp only at hg46
              refine TL.passG rfl rfl rfl rfl ?_
              refine TL.passG rfl rfl rfl rfl ?_
              refine TL.passG rfl rfl rfl rfl ?_
              refine TL.run1 (pure_pick_false rfl rfl) rfl ?_
              refine TL.run1 (pure_assign rfl) rfl ?_
              refine TL.cutEnd (by repeat (first | exact Same.refl _ _ | refine Same.put rfl ?_)) rfl ?_
              first | rfl | (simp_all [encI, encT]; done) | (simp_all; omega) | grind
          refine TC.ret ?_
          refine then_ret ?_
          exact ret_bool rfl (by simp)
        · try dsimp only at hc43
          exact absurd (by decide) hc43
      · try dsimp only at hc30
        have hok := errU_good hc30
        have hch := chk_one hfb hok
        refine TC.seq ?_
        refine TC.region ?_
        refine TL.run1 (pure_move rfl) rfl ?_
        first | refine TL.run1 (pure_len Ty.sl29 rfl) rfl ?_ | refine TL.run1 (pure_len_row Ty.sl29 rfl (by repeat (first | exact List.Mem.head _ | apply List.Mem.tail))) rfl ?_ | refine TL.run1 (pure_len_nil Ty.sl29 rfl) rfl ?_
        refine TL.run1 (pure_eql rfl rfl) rfl ?_
        refine TL.run1 (pure_assign rfl) rfl ?_
        refine TL.nil' ?_
        first | refine TC.condD rfl (fun hc34 => ?_) (fun hc34 => ?_) | refine TC.condN rfl (fun hc34 => ?_) (fun hc34 => ?_) | refine TC.cond rfl (fun hc34 => ?_) (fun hc34 => ?_)
        · try dsimp only at hc34
          obtain ⟨e1, e2⟩ := wd_zero hch (by omega)
          rw [e1, e2]
          refine TC.region ?_
          refine TL.run1 (pure_assign rfl) rfl ?_
          refine TL.nil ?_
          refine block_normal ?_
          refine then_normal ?_
          refine TC.seq ?_
          refine TC.seq ?_
          refine TC.region ?_
          refine TL.run1 (pure_move rfl) rfl ?_
          refine TL.run1 (pure_neq rfl rfl) rfl ?_
          refine TL.nil' ?_
          first | refine TC.condD rfl (fun hc43 => ?_) (fun hc43 => ?_) | refine TC.condN rfl (fun hc43 => ?_) (fun hc43 => ?_) | refine TC.cond rfl (fun hc43 => ?_) (fun hc43 => ?_)
          · try dsimp only at hc43
            refine TC.regionCut [44, 45, 46, 47, 48, 49, 50, 4] 4 (True) ?_ ?_
            · skip
              refine TL.run1 (pure_move rfl) rfl ?_
              refine TL.run1 (pure_eql rfl rfl) rfl ?_
              refine TL.run1 (pure_move rfl) rfl ?_
              first | refine TL.splitP 46 rfl (fun hg46 => ?_) (fun hg46 => ?_) | refine TL.split 46 rfl (fun hg46 => ?_) (fun hg46 => ?_)
              · try dsimp only at hg46
                refine TL.runG rfl rfl (pure_move rfl) rfl ?_
                refine TL.runG rfl rfl (pure_move rfl) rfl ?_
                refine TL.runG rfl rfl (pure_eql rfl rfl) rfl ?_
                refine TL.run1 (pure_pick_true rfl rfl) rfl ?_
                refine TL.run1 (pure_assign rfl) rfl ?_
                refine TL.cutEnd (by repeat (first | exact Same.refl _ _ | refine Same.put rfl ?_)) rfl ?_
                first | rfl | (simp_all [encI, encT]; done) | (simp_all; omega) | grind
              · try dsimp only at hg46
                refine TL.passG rfl rfl rfl rfl ?_
                refine TL.passG rfl rfl rfl rfl ?_
                refine TL.passG rfl rfl rfl rfl ?_
                refine TL.run1 (pure_pick_false rfl rfl) rfl ?_
                refine TL.run1 (pure_assign rfl) rfl ?_
                refine TL.cutEnd (by repeat (first | exact Same.refl _ _ | refine Same.put rfl ?_)) rfl ?_
                first | rfl | (simp_all [encI, encT]; done) | (simp_all; omega) | grind
            refine TC.ret ?_
            refine then_ret ?_
            exact ret_bool rfl (by simp)
          · try dsimp only at hc43
            exact absurd (by decide) hc43
        · try dsimp only at hc34
          refine TC.seq ?_
          refine TC.region ?_
          refine TL.run1 (pure_move rfl) rfl ?_
          first | refine TL.run1 (pure_len Ty.sl29 rfl) rfl ?_ | refine TL.run1 (pure_len_row Ty.sl29 rfl (by repeat (first | exact List.Mem.head _ | apply List.Mem.tail))) rfl ?_ | refine TL.run1 (pure_len_nil Ty.sl29 rfl) rfl ?_
          refine TL.run1 (pure_gtr rfl rfl) rfl ?_
          refine TL.run1 (pure_assign rfl) rfl ?_
          refine TL.nil' ?_
          first | refine TC.condD rfl (fun hc38 => ?_) (fun hc38 => ?_) | refine TC.condN rfl (fun hc38 => ?_) (fun hc38 => ?_) | refine TC.cond rfl (fun hc38 => ?_) (fun hc38 => ?_)
          · try dsimp only at hc38
            obtain ⟨e1, e2⟩ := wd_many hch (by omega)
            rw [e1, e2]
            refine TC.region ?_
            refine TL.run1 (pure_assign rfl) rfl ?_
            refine TL.nil ?_
            refine block_normal ?_
            refine then_normal ?_
            refine TC.seq ?_
            refine TC.seq ?_
            refine TC.region ?_
            refine TL.run1 (pure_move rfl) rfl ?_
            refine TL.run1 (pure_neq rfl rfl) rfl ?_
            refine TL.nil' ?_
            first | refine TC.condD rfl (fun hc43 => ?_) (fun hc43 => ?_) | refine TC.condN rfl (fun hc43 => ?_) (fun hc43 => ?_) | refine TC.cond rfl (fun hc43 => ?_) (fun hc43 => ?_)
            · try dsimp only at hc43
              refine TC.regionCut [44, 45, 46, 47, 48, 49, 50, 4] 4 (True) ?_ ?_
              · skip
                refine TL.run1 (pure_move rfl) rfl ?_
                refine TL.run1 (pure_eql rfl rfl) rfl ?_
                refine TL.run1 (pure_move rfl) rfl ?_
                first | refine TL.splitP 46 rfl (fun hg46 => ?_) (fun hg46 => ?_) | refine TL.split 46 rfl (fun hg46 => ?_) (fun hg46 => ?_)
                · try dsimp only at hg46
                  refine TL.runG rfl rfl (pure_move rfl) rfl ?_
                  refine TL.runG rfl rfl (pure_move rfl) rfl ?_
                  refine TL.runG rfl rfl (pure_eql rfl rfl) rfl ?_
                  refine TL.run1 (pure_pick_true rfl rfl) rfl ?_
                  refine TL.run1 (pure_assign rfl) rfl ?_
                  refine TL.cutEnd (by repeat (first | exact Same.refl _ _ | refine Same.put rfl ?_)) rfl ?_
                  first | rfl | (simp_all [encI, encT]; done) | (simp_all; omega) | grind
                · try dsimp only at hg46
                  refine TL.passG rfl rfl rfl rfl ?_
                  refine TL.passG rfl rfl rfl rfl ?_
                  refine TL.passG rfl rfl rfl rfl ?_
                  refine TL.run1 (pure_pick_false rfl rfl) rfl ?_
                  refine TL.run1 (pure_assign rfl) rfl ?_
                  refine TL.cutEnd (by repeat (first | exact Same.refl _ _ | refine Same.put rfl ?_)) rfl ?_
                  first | rfl | (simp_all [encI, encT]; done) | (simp_all; omega) | grind
              refine TC.ret ?_
              refine then_ret ?_
              exact ret_bool rfl (by simp)
            · try dsimp only at hc43
              exact absurd (by decide) hc43
          · try dsimp only at hc38
            obtain ⟨e1, e2⟩ := wd_one hch (by omega)
            rw [e1, e2]
            refine TC.skip ?_
            refine block_normal ?_
            refine then_normal ?_
            refine TC.seq ?_
            refine TC.seq ?_
            refine TC.region ?_
            refine TL.run1 (pure_move rfl) rfl ?_
            refine TL.run1 (pure_neq rfl rfl) rfl ?_
            refine TL.nil' ?_
            first | refine TC.condD rfl (fun hc43 => ?_) (fun hc43 => ?_) | refine TC.condN rfl (fun hc43 => ?_) (fun hc43 => ?_) | refine TC.cond rfl (fun hc43 => ?_) (fun hc43 => ?_)
            · try dsimp only at hc43
              exact absurd rfl hc43
            · try dsimp only at hc43
              refine TC.skip' ?_
              refine TC.regionCut [51, 52, 53, 54, 55, 56, 57, 58, 59, 4] 4 (True) ?_ ?_
              · skip
                refine TL.run1 (pure_move rfl) rfl ?_
                first | refine TL.run1 (pure_load Ty.agg23 rfl (.succ (.succ (.succ (.succ (.zero _)))))) rfl ?_ | refine TL.run1 (pure_load_own Ty.agg23 rfl (by repeat (first | exact List.Mem.head _ | apply List.Mem.tail)) (by repeat (first | exact DropR.zero _ | apply DropR.succ)) (.succ (.succ (.succ (.succ (.zero _)))))) rfl ?_
                refine TL.run1 (pure_move rfl) rfl ?_
                refine TL.run1 (pure_call (lwidth_spec f c hfb) (.cons rfl (.cons rfl .nil)) Tryd.call17) rfl ?_
                refine TL.run1 (pure_eql rfl rfl) rfl ?_
                refine TL.run1 (pure_move rfl) rfl ?_
                first | refine TL.splitP 56 rfl (fun hg56 => ?_) (fun hg56 => ?_) | refine TL.split 56 rfl (fun hg56 => ?_) (fun hg56 => ?_)
                · try dsimp only at hg56
                  refine TL.runG rfl rfl (pure_move rfl) rfl ?_
                  refine TL.runG rfl rfl (pure_eql rfl rfl) rfl ?_
                  refine TL.run1 (pure_pick_true rfl rfl) rfl ?_
                  refine TL.run1 (pure_assign rfl) rfl ?_
                  refine TL.cutEnd (by repeat (first | exact Same.refl _ _ | refine Same.put rfl ?_)) rfl ?_
                  first | rfl | (simp_all [encI, encT]; done) | (simp_all; omega) | grind
                · try dsimp only at hg56
                  refine TL.passG rfl rfl rfl rfl ?_
                  refine TL.passG rfl rfl rfl rfl ?_
                  refine TL.run1 (pure_pick_false rfl rfl) rfl ?_
                  refine TL.run1 (pure_assign rfl) rfl ?_
                  refine TL.cutEnd (by repeat (first | exact Same.refl _ _ | refine Same.put rfl ?_)) rfl ?_
                  first | rfl | (simp_all [encI, encT]; done) | (simp_all; omega) | grind
              refine TC.ret ?_
              exact ret_bool rfl (by simp)
set_option maxRecDepth 100000 in
theorem MetricsKerns_spec (f : Fo) (a b : ByteArray) : Fun Tryd.prog 6 [.agg [.v (.int .i64 f.face), .v (.int .i64 f.size), .v (.int .i64 f.raise), .v (.bool f.bold)], .v (.string a), .v (.string b)] (.v (.bool true)) := by
  refine Fun.enter (n := 74) (rs := [.tmp 6]) Tryd.func6 rfl Tryd.ntmps6 Tryd.results6 rfl (fun w F => ?_)
  refine TC.seq ?_
  refine TC.region ?_
  refine TL.box rfl (.agg _) rfl (fun g3 => ?_)
  refine TL.run1 (pure_assign rfl) rfl ?_
  refine TL.nil' ?_
  refine TC.seq ?_
  refine TC.region ?_
  refine TL.run1 (pure_move rfl) rfl ?_
  first | refine TL.run1 (pure_call (cut_spec a) (.cons rfl .nil) Tryd.call12) rfl ?_ | refine TL.run1 (pure_call (cut_spec b) (.cons rfl .nil) Tryd.call12) rfl ?_
  refine TL.run1 (pure_move rfl) rfl ?_
  first | refine TL.run1 (pure_call (cut_spec a) (.cons rfl .nil) Tryd.call12) rfl ?_ | refine TL.run1 (pure_call (cut_spec b) (.cons rfl .nil) Tryd.call12) rfl ?_
  refine TL.run1 (pure_assign rfl) rfl ?_
  refine TL.run1 (pure_assign rfl) rfl ?_
  refine TL.nil' ?_
  refine TC.seq ?_
  refine TC.seq ?_
  obtain ⟨c, hcd⟩ : ∃ c, cutT a = c := ⟨_, rfl⟩
  obtain ⟨d, hdd⟩ : ∃ d, cutT b = d := ⟨_, rfl⟩
  rw [hcd, hdd]
  have hcs : c.size ≤ 200 := hcd ▸ cutT_size a
  have hds : d.size ≤ 200 := hdd ▸ cutT_size b
  refine TC.region ?_
  refine TL.run1 (pure_call (known_spec) .nil Tryd.call13) rfl ?_
  refine TL.run1 (pure_not rfl) rfl ?_
  refine TL.nil' ?_
  first | refine TC.condD rfl (fun hc19 => ?_) (fun hc19 => ?_) | refine TC.condN rfl (fun hc19 => ?_) (fun hc19 => ?_) | refine TC.cond rfl (fun hc19 => ?_) (fun hc19 => ?_)
  · try dsimp only at hc19
    exact absurd hc19 (by simp)
  · try dsimp only at hc19
    refine TC.skip' ?_
    refine TC.seq ?_
    refine TC.region ?_
    first | refine TL.run1 (pure_load Ty.agg23 rfl (.succ (.succ (.succ (.succ (.zero _)))))) rfl ?_ | refine TL.run1 (pure_load_own Ty.agg23 rfl (by repeat (first | exact List.Mem.head _ | apply List.Mem.tail)) (by repeat (first | exact DropR.zero _ | apply DropR.succ)) (.succ (.succ (.succ (.succ (.zero _)))))) rfl ?_
    refine TL.run1 (pure_move rfl) rfl ?_
    refine TL.run1 (pure_move rfl) rfl ?_
    refine TL.run1 (pure_call (Kern_spec f c d (by omega) (by omega)) (.cons rfl (.cons rfl (.cons rfl .nil))) Tryd.call22) rfl ?_
    refine TL.run1 (pure_move rfl) rfl ?_
    refine TL.run1 (pure_extract rfl rfl) rfl ?_
    refine TL.run1 (pure_extract rfl rfl) rfl ?_
    refine TL.run1 (pure_assign rfl) rfl ?_
    refine TL.run1 (pure_assign rfl) rfl ?_
    refine TL.nil' ?_
    refine TC.seq ?_
    refine TC.region ?_
    refine TL.run1 (pure_move rfl) rfl ?_
    first | refine TL.run1 (pure_call (Clusters_spec c (by omega)) (.cons rfl .nil) Tryd.call15) rfl ?_ | refine TL.run1 (pure_call (Clusters_spec d (by omega)) (.cons rfl .nil) Tryd.call15) rfl ?_
    refine TL.run1 (pure_move rfl) rfl ?_
    refine TL.run1 (pure_extract rfl rfl) rfl ?_
    refine TL.run1 (pure_extract rfl rfl) rfl ?_
    refine TL.run1 (pure_assign rfl) rfl ?_
    refine TL.run1 (pure_assign rfl) rfl ?_
    refine TL.nil' ?_
    refine TC.seq ?_
    refine TC.region ?_
    refine TL.run1 (pure_move rfl) rfl ?_
    first | refine TL.run1 (pure_call (Clusters_spec c (by omega)) (.cons rfl .nil) Tryd.call15) rfl ?_ | refine TL.run1 (pure_call (Clusters_spec d (by omega)) (.cons rfl .nil) Tryd.call15) rfl ?_
    refine TL.run1 (pure_move rfl) rfl ?_
    refine TL.run1 (pure_extract rfl rfl) rfl ?_
    refine TL.run1 (pure_extract rfl rfl) rfl ?_
    refine TL.run1 (pure_assign rfl) rfl ?_
    refine TL.run1 (pure_assign rfl) rfl ?_
    refine TL.nil' ?_
    refine TC.seq ?_
    refine TC.seq ?_
    refine TC.region ?_
    first | refine TL.run1 (pure_load Ty.agg23 rfl (.succ (.succ (.succ (.succ (.zero _)))))) rfl ?_ | refine TL.run1 (pure_load_own Ty.agg23 rfl (by repeat (first | exact List.Mem.head _ | apply List.Mem.tail)) (by repeat (first | exact DropR.zero _ | apply DropR.succ)) (.succ (.succ (.succ (.succ (.zero _)))))) rfl ?_
    refine TL.run1 (pure_call (check_spec f) (.cons rfl .nil) Tryd.call16) rfl ?_
    refine TL.run1 (pure_assign rfl) rfl ?_
    refine TL.nil' ?_
    refine TC.seq ?_
    refine TC.region ?_
    refine TL.run1 (pure_move rfl) rfl ?_
    refine TL.run1 (pure_neq rfl rfl) rfl ?_
    refine TL.nil' ?_
    first | refine TC.condD rfl (fun hc40 => ?_) (fun hc40 => ?_) | refine TC.condN rfl (fun hc40 => ?_) (fun hc40 => ?_) | refine TC.cond rfl (fun hc40 => ?_) (fun hc40 => ?_)
    · try dsimp only at hc40
      have hfb := errF_of hc40
      have hch := chk_bad hfb [c, d]
      rw [ke_bad (by rw [hch]; decide), hch, errF_bad hfb]
      refine TC.regionCut [41, 42, 43, 44, 45, 46, 47, 6] 6 (True) ?_ ?_
      · skip
        refine TL.run1 (pure_move rfl) rfl ?_
        refine TL.run1 (pure_eql rfl rfl) rfl ?_
        refine TL.run1 (pure_move rfl) rfl ?_
        first | refine TL.splitP 43 rfl (fun hg43 => ?_) (fun hg43 => ?_) | refine TL.split 43 rfl (fun hg43 => ?_) (fun hg43 => ?_)
        · try dsimp only at hg43
          refine TL.runG rfl rfl (pure_move rfl) rfl ?_
          refine TL.runG rfl rfl (pure_move rfl) rfl ?_
          refine TL.runG rfl rfl (pure_eql rfl rfl) rfl ?_
          refine TL.run1 (pure_pick_true rfl rfl) rfl ?_
          refine TL.run1 (pure_assign rfl) rfl ?_
          refine TL.cutEnd (by repeat (first | exact Same.refl _ _ | refine Same.put rfl ?_)) rfl ?_
          first | rfl | (simp_all [encI, encT]; done) | (simp_all; omega) | grind
        · try dsimp only at hg43
          refine TL.passG rfl rfl rfl rfl ?_
          refine TL.passG rfl rfl rfl rfl ?_
          refine TL.passG rfl rfl rfl rfl ?_
          refine TL.run1 (pure_pick_false rfl rfl) rfl ?_
          refine TL.run1 (pure_assign rfl) rfl ?_
          refine TL.cutEnd (by repeat (first | exact Same.refl _ _ | refine Same.put rfl ?_)) rfl ?_
          first | rfl | (simp_all [encI, encT]; done) | (simp_all; omega) | grind
      refine TC.ret ?_
      refine then_ret ?_
      exact ret_bool rfl (by simp)
    · try dsimp only at hc40
      have hfb := errF_not hc40
      rw [errF_ok hfb]
      refine TC.skip' ?_
      refine TC.seq ?_
      refine TC.regionCut [48, 49, 50, 51, 52, 53] 53 (errU c ≠ 0 ∨ errU d ≠ 0) ?_ ?_
      · skip
        refine TL.run1 (pure_move rfl) rfl ?_
        refine TL.run1 (pure_neq rfl rfl) rfl ?_
        refine TL.run1 (pure_move rfl) rfl ?_
        first | refine TL.splitP 50 rfl (fun hg50 => ?_) (fun hg50 => ?_) | refine TL.split 50 rfl (fun hg50 => ?_) (fun hg50 => ?_)
        · try dsimp only at hg50
          refine TL.passG rfl rfl rfl rfl ?_
          refine TL.passG rfl rfl rfl rfl ?_
          refine TL.run1 (pure_pick_true rfl rfl) rfl ?_
          refine TL.cutEnd (by repeat (first | exact Same.refl _ _ | refine Same.put rfl ?_)) rfl ?_
          first | (simp only [decide_eq_true_eq, Bool.false_eq_true, false_iff, true_iff, iff_true, iff_false, Bool.not_eq_true]; omega) | (simp_all; done) | (simp_all; omega) | grind
        · try dsimp only at hg50
          refine TL.runG rfl rfl (pure_move rfl) rfl ?_
          refine TL.runG rfl rfl (pure_neq rfl rfl) rfl ?_
          refine TL.run1 (pure_pick_false rfl rfl) rfl ?_
          refine TL.cutEnd (by repeat (first | exact Same.refl _ _ | refine Same.put rfl ?_)) rfl ?_
          first | (simp only [decide_eq_true_eq, Bool.false_eq_true, false_iff, true_iff, iff_true, iff_false, Bool.not_eq_true]; omega) | (simp_all; done) | (simp_all; omega) | grind
      first | refine TC.condD rfl (fun hc53 => ?_) (fun hc53 => ?_) | refine TC.condN rfl (fun hc53 => ?_) (fun hc53 => ?_) | refine TC.cond rfl (fun hc53 => ?_) (fun hc53 => ?_)
      · try dsimp only at hc53
        have hch : chkV f [c, d] = 12 := by (rcases hc53 with h | h; exact chk_utf hfb (by simp) (errU_bad h); exact chk_utf hfb (by simp) (errU_bad h))
        rw [ke_bad (by rw [hch]; decide), hch]
        refine TC.regionCut [54, 55, 56, 57, 58, 59, 6] 6 (True) ?_ ?_
        · skip
          refine TL.run1 (pure_move rfl) rfl ?_
          refine TL.run1 (pure_eql rfl rfl) rfl ?_
          refine TL.run1 (pure_move rfl) rfl ?_
          first | refine TL.splitP 56 rfl (fun hg56 => ?_) (fun hg56 => ?_) | refine TL.split 56 rfl (fun hg56 => ?_) (fun hg56 => ?_)
          · try dsimp only at hg56
            refine TL.runG rfl rfl (pure_move rfl) rfl ?_
            refine TL.runG rfl rfl (pure_eql rfl rfl) rfl ?_
            refine TL.run1 (pure_pick_true rfl rfl) rfl ?_
            refine TL.run1 (pure_assign rfl) rfl ?_
            refine TL.cutEnd (by repeat (first | exact Same.refl _ _ | refine Same.put rfl ?_)) rfl ?_
            first | rfl | (simp_all [encI, encT]; done) | (simp_all; omega) | grind
          · try dsimp only at hg56
            refine TL.passG rfl rfl rfl rfl ?_
            refine TL.passG rfl rfl rfl rfl ?_
            refine TL.run1 (pure_pick_false rfl rfl) rfl ?_
            refine TL.run1 (pure_assign rfl) rfl ?_
            refine TL.cutEnd (by repeat (first | exact Same.refl _ _ | refine Same.put rfl ?_)) rfl ?_
            first | rfl | (simp_all [encI, encT]; done) | (simp_all; omega) | grind
        refine TC.ret ?_
        refine then_ret ?_
        exact ret_bool rfl (by simp)
      · try dsimp only at hc53
        have hoc := errU_good (fun h => hc53 (.inl h))
        have hod := errU_good (fun h => hc53 (.inr h))
        have hch := chk_two hfb hoc hod
        rw [keV_eq hfb hoc hod, hch]
        have hkl := krL_le hfb c d
        refine TC.skip' ?_
        refine TC.regionCut [60, 61, 62, 63, 64, 65, 66, 67, 68, 69, 70, 71, 72, 73, 6] 6 (True) ?_ ?_
        · skip
          refine TL.run1 (pure_move rfl) rfl ?_
          first | refine TL.run1 (pure_load Ty.agg23 rfl (.succ (.succ (.succ (.succ (.zero _)))))) rfl ?_ | refine TL.run1 (pure_load_own Ty.agg23 rfl (by repeat (first | exact List.Mem.head _ | apply List.Mem.tail)) (by repeat (first | exact DropR.zero _ | apply DropR.succ)) (.succ (.succ (.succ (.succ (.zero _)))))) rfl ?_
          refine TL.run1 (pure_move rfl) rfl ?_
          refine TL.run1 (pure_move rfl) rfl ?_
          refine TL.run1 (pure_call (lkern_spec f c d hfb (by omega)) (.cons rfl (.cons rfl (.cons rfl .nil))) Tryd.call23) rfl ?_
          refine TL.run1 (pure_eql rfl rfl) rfl ?_
          refine TL.run1 (pure_move rfl) rfl ?_
          first | refine TL.splitP 66 rfl (fun hg66 => ?_) (fun hg66 => ?_) | refine TL.split 66 rfl (fun hg66 => ?_) (fun hg66 => ?_)
          · try dsimp only at hg66
            refine TL.runG rfl rfl (pure_move rfl) rfl ?_
            refine TL.runG rfl rfl (pure_leq rfl rfl) rfl ?_
            refine TL.run1 (pure_pick_true rfl rfl) rfl ?_
            refine TL.run1 (pure_move rfl) rfl ?_
            first | refine TL.splitP 70 rfl (fun hg70 => ?_) (fun hg70 => ?_) | refine TL.split 70 rfl (fun hg70 => ?_) (fun hg70 => ?_)
            · try dsimp only at hg70
              refine TL.runG rfl rfl (pure_move rfl) rfl ?_
              refine TL.runG rfl rfl (pure_eql rfl rfl) rfl ?_
              refine TL.run1 (pure_pick_true rfl rfl) rfl ?_
              refine TL.run1 (pure_assign rfl) rfl ?_
              refine TL.cutEnd (by repeat (first | exact Same.refl _ _ | refine Same.put rfl ?_)) rfl ?_
              first | (simp only [decide_eq_true_eq, true_iff, iff_true, Bool.false_eq_true, false_iff]; first | exact hkl | trivial | omega) | (simp_all; done) | grind
            · try dsimp only at hg70
              refine TL.passG rfl rfl rfl rfl ?_
              refine TL.passG rfl rfl rfl rfl ?_
              refine TL.run1 (pure_pick_false rfl rfl) rfl ?_
              refine TL.run1 (pure_assign rfl) rfl ?_
              refine TL.cutEnd (by repeat (first | exact Same.refl _ _ | refine Same.put rfl ?_)) rfl ?_
              first | (simp only [decide_eq_true_eq, true_iff, iff_true, Bool.false_eq_true, false_iff]; first | exact hkl | trivial | omega) | (simp_all; done) | grind
          · try dsimp only at hg66
            refine TL.passG rfl rfl rfl rfl ?_
            refine TL.passG rfl rfl rfl rfl ?_
            refine TL.run1 (pure_pick_false rfl rfl) rfl ?_
            refine TL.run1 (pure_move rfl) rfl ?_
            refine TL.passG rfl rfl rfl rfl ?_
            refine TL.passG rfl rfl rfl rfl ?_
            refine TL.run1 (pure_pick_false rfl rfl) rfl ?_
            refine TL.run1 (pure_assign rfl) rfl ?_
            refine TL.cutEnd (by repeat (first | exact Same.refl _ _ | refine Same.put rfl ?_)) rfl ?_
            first | (simp only [decide_eq_true_eq, true_iff, iff_true, Bool.false_eq_true, false_iff]; first | exact hkl | trivial | omega) | (simp_all; done) | grind
        refine TC.ret ?_
        exact ret_bool rfl (by simp)
end Go.Ob
