import Derived.Test.YtkmgogabbefonaaDoorE1
set_option linter.unusedVariables false
set_option linter.unusedSimpArgs false
namespace Go.Ob
open Go.Proofs
set_option maxHeartbeats 4000000 in
set_option maxRecDepth 100000 in
theorem kern_spec (f : Fo) (a b : ByteArray) (hf : ¬ FBad f) (hab : a.size + b.size ≤ 1000000000) : Fun Tryd.prog 41 [.agg [.v (.int .i64 f.face), .v (.int .i64 f.size), .v (.int .i64 f.raise), .v (.bool f.bold)], .v (.string a), .v (.string b)] (.v (.int .i64 (krP f a b))) := by
  refine Fun.enter (n := 49) (rs := [.tmp 6]) Tryd.func41 rfl Tryd.ntmps41 Tryd.results41 rfl (fun w F => ?_)
  have hs1 := scP_range (n := 80) hf (by omega) (by omega)
  have hs2 := scP_range (n := 60) hf (by omega) (by omega)
  have hs0 := scP_range (n := 0) hf (by omega) (by omega)
  refine TC.seq ?_
  refine TC.region ?_
  refine TL.box rfl (.agg _) rfl (fun g3 => ?_)
  refine TL.run1 (pure_assign rfl) rfl ?_
  refine TL.nil' ?_
  refine TC.seq ?_
  refine TC.region ?_
  refine TL.run1 (pure_assign rfl) rfl ?_
  refine TL.nil' ?_
  refine TC.seq ?_
  refine TC.seq ?_
  refine TC.region ?_
  refine TL.run1 (pure_move rfl) rfl ?_
  refine TL.run1 (pure_move rfl) rfl ?_
  refine TL.run1 (pure_add_string rfl rfl (by omega)) rfl ?_
  refine TL.nil' ?_
  refine TC.block ?_
  refine TC.seq ?_
  refine TC.seq ?_
  refine TC.region ?_
  refine TL.run1 (pure_eql_string rfl rfl) rfl ?_
  refine TL.run1 (pure_assign rfl) rfl ?_
  refine TL.nil' ?_
  first | refine TC.condD rfl (fun hc11 => ?_) (fun hc11 => ?_) | refine TC.condN rfl (fun hc11 => ?_) (fun hc11 => ?_) | refine TC.cond rfl (fun hc11 => ?_) (fun hc11 => ?_)
  · try dsimp only at hc11
    refine TC.skip' ?_
    first | refine TC.condD rfl (fun hc11 => ?_) (fun hc11 => ?_) | refine TC.condN rfl (fun hc11 => ?_) (fun hc11 => ?_) | refine TC.cond rfl (fun hc11 => ?_) (fun hc11 => ?_)
    · try dsimp only at hc11
      refine TC.region ?_
      refine TL.run1 (pure_assign rfl) rfl ?_
      refine TL.nil ?_
      refine block_normal ?_
      refine then_normal ?_
      refine TC.seq ?_
      have hk : kK (a ++ b) = 80 := by rw [hc11]; decide +kernel
      refine TC.regionCut [38, 39, 40, 41, 42, 43, 44] 44 ((80 : Int) = 0 ∨ ¬ f.face % 2 = 0) ?_ ?_
      · skip
        refine TL.run1 (pure_move rfl) rfl ?_
        refine TL.run1 (pure_eql rfl rfl) rfl ?_
        refine TL.run1 (pure_move rfl) rfl ?_
        first | refine TL.splitP 40 rfl (fun hg40 => ?_) (fun hg40 => ?_) | refine TL.split 40 rfl (fun hg40 => ?_) (fun hg40 => ?_)
        · try dsimp only at hg40
          refine TL.passG rfl rfl rfl rfl ?_
          refine TL.passG rfl rfl rfl rfl ?_
          refine TL.passG rfl rfl rfl rfl ?_
          refine TL.run1 (pure_pick_true rfl rfl) rfl ?_
          refine TL.cutEnd (by repeat (first | exact Same.refl _ _ | refine Same.put rfl ?_)) rfl ?_
          first | (simp; done) | (simp_all; done) | grind
        · try dsimp only at hg40
          first | refine TL.runG rfl rfl (pure_load Ty.agg23 rfl (.succ (.succ (.succ (.succ (.zero _)))))) rfl ?_ | refine TL.runG rfl rfl (pure_load_own Ty.agg23 rfl (by repeat (first | exact List.Mem.head _ | apply List.Mem.tail)) (by repeat (first | exact DropR.zero _ | apply DropR.succ)) (.succ (.succ (.succ (.succ (.zero _)))))) rfl ?_
          refine TL.runG rfl rfl (pure_call (prop_spec f hf) (.cons rfl .nil) Tryd.call48) rfl ?_
          refine TL.runG rfl rfl (pure_not rfl) rfl ?_
          refine TL.run1 (pure_pick_false rfl rfl) rfl ?_
          refine TL.cutEnd (by repeat (first | exact Same.refl _ _ | refine Same.put rfl ?_)) rfl ?_
          first | (simp; done) | (simp_all; done) | grind
      first | refine TC.condD rfl (fun hc44 => ?_) (fun hc44 => ?_) | refine TC.condN rfl (fun hc44 => ?_) (fun hc44 => ?_) | refine TC.cond rfl (fun hc44 => ?_) (fun hc44 => ?_)
      · try dsimp only at hc44
        refine TC.seq ?_
        refine TC.region ?_
        refine TL.run1 (pure_assign rfl) rfl ?_
        refine TL.nil' ?_
        refine TC.ret ?_
        refine then_ret ?_
        exact ret_int rfl (by unfold krP; rw [hk, if_pos hc44])
      · try dsimp only at hc44
        refine TC.skip' ?_
        refine TC.seq ?_
        refine TC.region ?_
        first | refine TL.run1 (pure_load Ty.agg23 rfl (.succ (.succ (.succ (.succ (.zero _)))))) rfl ?_ | refine TL.run1 (pure_load_own Ty.agg23 rfl (by repeat (first | exact List.Mem.head _ | apply List.Mem.tail)) (by repeat (first | exact DropR.zero _ | apply DropR.succ)) (.succ (.succ (.succ (.succ (.zero _)))))) rfl ?_
        refine TL.run1 (pure_move rfl) rfl ?_
        first | refine TL.run1 (pure_call (scaled_spec f 80 hf (by omega) (by omega)) (.cons rfl (.cons rfl .nil)) Tryd.call49) rfl ?_ | refine TL.run1 (pure_call (scaled_spec f 60 hf (by omega) (by omega)) (.cons rfl (.cons rfl .nil)) Tryd.call49) rfl ?_
        refine TL.run1 (pure_neg rfl (mkI64 (by omega) (by omega))) rfl ?_
        refine TL.run1 (pure_assign rfl) rfl ?_
        refine TL.nil' ?_
        refine TC.ret ?_
        exact ret_int rfl (by unfold krP; rw [hk, if_neg hc44])
    · try dsimp only at hc11
      exact absurd (by assumption) hc11
  · try dsimp only at hc11
    refine TC.seq ?_
    refine TC.region ?_
    refine TL.run1 (pure_eql_string rfl rfl) rfl ?_
    refine TL.run1 (pure_assign rfl) rfl ?_
    refine TL.nil' ?_
    first | refine TC.condD rfl (fun hc11 => ?_) (fun hc11 => ?_) | refine TC.condN rfl (fun hc11 => ?_) (fun hc11 => ?_) | refine TC.cond rfl (fun hc11 => ?_) (fun hc11 => ?_)
    · try dsimp only at hc11
      refine TC.skip' ?_
      first | refine TC.condD rfl (fun hc11 => ?_) (fun hc11 => ?_) | refine TC.condN rfl (fun hc11 => ?_) (fun hc11 => ?_) | refine TC.cond rfl (fun hc11 => ?_) (fun hc11 => ?_)
      · try dsimp only at hc11
        refine TC.region ?_
        refine TL.run1 (pure_assign rfl) rfl ?_
        refine TL.nil ?_
        refine block_normal ?_
        refine then_normal ?_
        refine TC.seq ?_
        have hk : kK (a ++ b) = 80 := by rw [hc11]; decide +kernel
        refine TC.regionCut [38, 39, 40, 41, 42, 43, 44] 44 ((80 : Int) = 0 ∨ ¬ f.face % 2 = 0) ?_ ?_
        · skip
          refine TL.run1 (pure_move rfl) rfl ?_
          refine TL.run1 (pure_eql rfl rfl) rfl ?_
          refine TL.run1 (pure_move rfl) rfl ?_
          first | refine TL.splitP 40 rfl (fun hg40 => ?_) (fun hg40 => ?_) | refine TL.split 40 rfl (fun hg40 => ?_) (fun hg40 => ?_)
          · try dsimp only at hg40
            refine TL.passG rfl rfl rfl rfl ?_
            refine TL.passG rfl rfl rfl rfl ?_
            refine TL.passG rfl rfl rfl rfl ?_
            refine TL.run1 (pure_pick_true rfl rfl) rfl ?_
            refine TL.cutEnd (by repeat (first | exact Same.refl _ _ | refine Same.put rfl ?_)) rfl ?_
            first | (simp; done) | (simp_all; done) | grind
          · try dsimp only at hg40
            first | refine TL.runG rfl rfl (pure_load Ty.agg23 rfl (.succ (.succ (.succ (.succ (.zero _)))))) rfl ?_ | refine TL.runG rfl rfl (pure_load_own Ty.agg23 rfl (by repeat (first | exact List.Mem.head _ | apply List.Mem.tail)) (by repeat (first | exact DropR.zero _ | apply DropR.succ)) (.succ (.succ (.succ (.succ (.zero _)))))) rfl ?_
            refine TL.runG rfl rfl (pure_call (prop_spec f hf) (.cons rfl .nil) Tryd.call48) rfl ?_
            refine TL.runG rfl rfl (pure_not rfl) rfl ?_
            refine TL.run1 (pure_pick_false rfl rfl) rfl ?_
            refine TL.cutEnd (by repeat (first | exact Same.refl _ _ | refine Same.put rfl ?_)) rfl ?_
            first | (simp; done) | (simp_all; done) | grind
        first | refine TC.condD rfl (fun hc44 => ?_) (fun hc44 => ?_) | refine TC.condN rfl (fun hc44 => ?_) (fun hc44 => ?_) | refine TC.cond rfl (fun hc44 => ?_) (fun hc44 => ?_)
        · try dsimp only at hc44
          refine TC.seq ?_
          refine TC.region ?_
          refine TL.run1 (pure_assign rfl) rfl ?_
          refine TL.nil' ?_
          refine TC.ret ?_
          refine then_ret ?_
          exact ret_int rfl (by unfold krP; rw [hk, if_pos hc44])
        · try dsimp only at hc44
          refine TC.skip' ?_
          refine TC.seq ?_
          refine TC.region ?_
          first | refine TL.run1 (pure_load Ty.agg23 rfl (.succ (.succ (.succ (.succ (.zero _)))))) rfl ?_ | refine TL.run1 (pure_load_own Ty.agg23 rfl (by repeat (first | exact List.Mem.head _ | apply List.Mem.tail)) (by repeat (first | exact DropR.zero _ | apply DropR.succ)) (.succ (.succ (.succ (.succ (.zero _)))))) rfl ?_
          refine TL.run1 (pure_move rfl) rfl ?_
          first | refine TL.run1 (pure_call (scaled_spec f 80 hf (by omega) (by omega)) (.cons rfl (.cons rfl .nil)) Tryd.call49) rfl ?_ | refine TL.run1 (pure_call (scaled_spec f 60 hf (by omega) (by omega)) (.cons rfl (.cons rfl .nil)) Tryd.call49) rfl ?_
          refine TL.run1 (pure_neg rfl (mkI64 (by omega) (by omega))) rfl ?_
          refine TL.run1 (pure_assign rfl) rfl ?_
          refine TL.nil' ?_
          refine TC.ret ?_
          exact ret_int rfl (by unfold krP; rw [hk, if_neg hc44])
      · try dsimp only at hc11
        exact absurd (by assumption) hc11
    · try dsimp only at hc11
      refine TC.seq ?_
      refine TC.region ?_
      refine TL.run1 (pure_eql_string rfl rfl) rfl ?_
      refine TL.run1 (pure_assign rfl) rfl ?_
      refine TL.nil' ?_
      first | refine TC.condD rfl (fun hc11 => ?_) (fun hc11 => ?_) | refine TC.condN rfl (fun hc11 => ?_) (fun hc11 => ?_) | refine TC.cond rfl (fun hc11 => ?_) (fun hc11 => ?_)
      · try dsimp only at hc11
        refine TC.skip' ?_
        first | refine TC.condD rfl (fun hc11 => ?_) (fun hc11 => ?_) | refine TC.condN rfl (fun hc11 => ?_) (fun hc11 => ?_) | refine TC.cond rfl (fun hc11 => ?_) (fun hc11 => ?_)
        · try dsimp only at hc11
          refine TC.region ?_
          refine TL.run1 (pure_assign rfl) rfl ?_
          refine TL.nil ?_
          refine block_normal ?_
          refine then_normal ?_
          refine TC.seq ?_
          have hk : kK (a ++ b) = 80 := by rw [hc11]; decide +kernel
          refine TC.regionCut [38, 39, 40, 41, 42, 43, 44] 44 ((80 : Int) = 0 ∨ ¬ f.face % 2 = 0) ?_ ?_
          · skip
            refine TL.run1 (pure_move rfl) rfl ?_
            refine TL.run1 (pure_eql rfl rfl) rfl ?_
            refine TL.run1 (pure_move rfl) rfl ?_
            first | refine TL.splitP 40 rfl (fun hg40 => ?_) (fun hg40 => ?_) | refine TL.split 40 rfl (fun hg40 => ?_) (fun hg40 => ?_)
            · try dsimp only at hg40
              refine TL.passG rfl rfl rfl rfl ?_
              refine TL.passG rfl rfl rfl rfl ?_
              refine TL.passG rfl rfl rfl rfl ?_
              refine TL.run1 (pure_pick_true rfl rfl) rfl ?_
              refine TL.cutEnd (by repeat (first | exact Same.refl _ _ | refine Same.put rfl ?_)) rfl ?_
              first | (simp; done) | (simp_all; done) | grind
            · try dsimp only at hg40
              first | refine TL.runG rfl rfl (pure_load Ty.agg23 rfl (.succ (.succ (.succ (.succ (.zero _)))))) rfl ?_ | refine TL.runG rfl rfl (pure_load_own Ty.agg23 rfl (by repeat (first | exact List.Mem.head _ | apply List.Mem.tail)) (by repeat (first | exact DropR.zero _ | apply DropR.succ)) (.succ (.succ (.succ (.succ (.zero _)))))) rfl ?_
              refine TL.runG rfl rfl (pure_call (prop_spec f hf) (.cons rfl .nil) Tryd.call48) rfl ?_
              refine TL.runG rfl rfl (pure_not rfl) rfl ?_
              refine TL.run1 (pure_pick_false rfl rfl) rfl ?_
              refine TL.cutEnd (by repeat (first | exact Same.refl _ _ | refine Same.put rfl ?_)) rfl ?_
              first | (simp; done) | (simp_all; done) | grind
          first | refine TC.condD rfl (fun hc44 => ?_) (fun hc44 => ?_) | refine TC.condN rfl (fun hc44 => ?_) (fun hc44 => ?_) | refine TC.cond rfl (fun hc44 => ?_) (fun hc44 => ?_)
          · try dsimp only at hc44
            refine TC.seq ?_
            refine TC.region ?_
            refine TL.run1 (pure_assign rfl) rfl ?_
            refine TL.nil' ?_
            refine TC.ret ?_
            refine then_ret ?_
            exact ret_int rfl (by unfold krP; rw [hk, if_pos hc44])
          · try dsimp only at hc44
            refine TC.skip' ?_
            refine TC.seq ?_
            refine TC.region ?_
            first | refine TL.run1 (pure_load Ty.agg23 rfl (.succ (.succ (.succ (.succ (.zero _)))))) rfl ?_ | refine TL.run1 (pure_load_own Ty.agg23 rfl (by repeat (first | exact List.Mem.head _ | apply List.Mem.tail)) (by repeat (first | exact DropR.zero _ | apply DropR.succ)) (.succ (.succ (.succ (.succ (.zero _)))))) rfl ?_
            refine TL.run1 (pure_move rfl) rfl ?_
            first | refine TL.run1 (pure_call (scaled_spec f 80 hf (by omega) (by omega)) (.cons rfl (.cons rfl .nil)) Tryd.call49) rfl ?_ | refine TL.run1 (pure_call (scaled_spec f 60 hf (by omega) (by omega)) (.cons rfl (.cons rfl .nil)) Tryd.call49) rfl ?_
            refine TL.run1 (pure_neg rfl (mkI64 (by omega) (by omega))) rfl ?_
            refine TL.run1 (pure_assign rfl) rfl ?_
            refine TL.nil' ?_
            refine TC.ret ?_
            exact ret_int rfl (by unfold krP; rw [hk, if_neg hc44])
        · try dsimp only at hc11
          exact absurd (by assumption) hc11
      · try dsimp only at hc11
        refine TC.seq ?_
        refine TC.region ?_
        refine TL.run1 (pure_eql_string rfl rfl) rfl ?_
        refine TL.run1 (pure_assign rfl) rfl ?_
        refine TL.nil' ?_
        first | refine TC.condD rfl (fun hc11 => ?_) (fun hc11 => ?_) | refine TC.condN rfl (fun hc11 => ?_) (fun hc11 => ?_) | refine TC.cond rfl (fun hc11 => ?_) (fun hc11 => ?_)
        · try dsimp only at hc11
          refine TC.skip' ?_
          first | refine TC.condD rfl (fun hc11 => ?_) (fun hc11 => ?_) | refine TC.condN rfl (fun hc11 => ?_) (fun hc11 => ?_) | refine TC.cond rfl (fun hc11 => ?_) (fun hc11 => ?_)
          · try dsimp only at hc11
            refine TC.region ?_
            refine TL.run1 (pure_assign rfl) rfl ?_
            refine TL.nil ?_
            refine block_normal ?_
            refine then_normal ?_
            refine TC.seq ?_
            have hk : kK (a ++ b) = 80 := by rw [hc11]; decide +kernel
            refine TC.regionCut [38, 39, 40, 41, 42, 43, 44] 44 ((80 : Int) = 0 ∨ ¬ f.face % 2 = 0) ?_ ?_
            · skip
              refine TL.run1 (pure_move rfl) rfl ?_
              refine TL.run1 (pure_eql rfl rfl) rfl ?_
              refine TL.run1 (pure_move rfl) rfl ?_
              first | refine TL.splitP 40 rfl (fun hg40 => ?_) (fun hg40 => ?_) | refine TL.split 40 rfl (fun hg40 => ?_) (fun hg40 => ?_)
              · try dsimp only at hg40
                refine TL.passG rfl rfl rfl rfl ?_
                refine TL.passG rfl rfl rfl rfl ?_
                refine TL.passG rfl rfl rfl rfl ?_
                refine TL.run1 (pure_pick_true rfl rfl) rfl ?_
                refine TL.cutEnd (by repeat (first | exact Same.refl _ _ | refine Same.put rfl ?_)) rfl ?_
                first | (simp; done) | (simp_all; done) | grind
              · try dsimp only at hg40
                first | refine TL.runG rfl rfl (pure_load Ty.agg23 rfl (.succ (.succ (.succ (.succ (.zero _)))))) rfl ?_ | refine TL.runG rfl rfl (pure_load_own Ty.agg23 rfl (by repeat (first | exact List.Mem.head _ | apply List.Mem.tail)) (by repeat (first | exact DropR.zero _ | apply DropR.succ)) (.succ (.succ (.succ (.succ (.zero _)))))) rfl ?_
                refine TL.runG rfl rfl (pure_call (prop_spec f hf) (.cons rfl .nil) Tryd.call48) rfl ?_
                refine TL.runG rfl rfl (pure_not rfl) rfl ?_
                refine TL.run1 (pure_pick_false rfl rfl) rfl ?_
                refine TL.cutEnd (by repeat (first | exact Same.refl _ _ | refine Same.put rfl ?_)) rfl ?_
                first | (simp; done) | (simp_all; done) | grind
            first | refine TC.condD rfl (fun hc44 => ?_) (fun hc44 => ?_) | refine TC.condN rfl (fun hc44 => ?_) (fun hc44 => ?_) | refine TC.cond rfl (fun hc44 => ?_) (fun hc44 => ?_)
            · try dsimp only at hc44
              refine TC.seq ?_
              refine TC.region ?_
              refine TL.run1 (pure_assign rfl) rfl ?_
              refine TL.nil' ?_
              refine TC.ret ?_
              refine then_ret ?_
              exact ret_int rfl (by unfold krP; rw [hk, if_pos hc44])
            · try dsimp only at hc44
              refine TC.skip' ?_
              refine TC.seq ?_
              refine TC.region ?_
              first | refine TL.run1 (pure_load Ty.agg23 rfl (.succ (.succ (.succ (.succ (.zero _)))))) rfl ?_ | refine TL.run1 (pure_load_own Ty.agg23 rfl (by repeat (first | exact List.Mem.head _ | apply List.Mem.tail)) (by repeat (first | exact DropR.zero _ | apply DropR.succ)) (.succ (.succ (.succ (.succ (.zero _)))))) rfl ?_
              refine TL.run1 (pure_move rfl) rfl ?_
              first | refine TL.run1 (pure_call (scaled_spec f 80 hf (by omega) (by omega)) (.cons rfl (.cons rfl .nil)) Tryd.call49) rfl ?_ | refine TL.run1 (pure_call (scaled_spec f 60 hf (by omega) (by omega)) (.cons rfl (.cons rfl .nil)) Tryd.call49) rfl ?_
              refine TL.run1 (pure_neg rfl (mkI64 (by omega) (by omega))) rfl ?_
              refine TL.run1 (pure_assign rfl) rfl ?_
              refine TL.nil' ?_
              refine TC.ret ?_
              exact ret_int rfl (by unfold krP; rw [hk, if_neg hc44])
          · try dsimp only at hc11
            exact absurd (by assumption) hc11
        · try dsimp only at hc11
          refine TC.seq ?_
          refine TC.region ?_
          refine TL.run1 (pure_eql_string rfl rfl) rfl ?_
          refine TL.run1 (pure_assign rfl) rfl ?_
          refine TL.nil' ?_
          first | refine TC.condD rfl (fun hc11 => ?_) (fun hc11 => ?_) | refine TC.condN rfl (fun hc11 => ?_) (fun hc11 => ?_) | refine TC.cond rfl (fun hc11 => ?_) (fun hc11 => ?_)
          · try dsimp only at hc11
            refine TC.skip' ?_
            first | refine TC.condD rfl (fun hc11 => ?_) (fun hc11 => ?_) | refine TC.condN rfl (fun hc11 => ?_) (fun hc11 => ?_) | refine TC.cond rfl (fun hc11 => ?_) (fun hc11 => ?_)
            · try dsimp only at hc11
              refine TC.region ?_
              refine TL.run1 (pure_assign rfl) rfl ?_
              refine TL.nil ?_
              refine block_normal ?_
              refine then_normal ?_
              refine TC.seq ?_
              have hk : kK (a ++ b) = 80 := by rw [hc11]; decide +kernel
              refine TC.regionCut [38, 39, 40, 41, 42, 43, 44] 44 ((80 : Int) = 0 ∨ ¬ f.face % 2 = 0) ?_ ?_
              · skip
                refine TL.run1 (pure_move rfl) rfl ?_
                refine TL.run1 (pure_eql rfl rfl) rfl ?_
                refine TL.run1 (pure_move rfl) rfl ?_
                first | refine TL.splitP 40 rfl (fun hg40 => ?_) (fun hg40 => ?_) | refine TL.split 40 rfl (fun hg40 => ?_) (fun hg40 => ?_)
                · try dsimp only at hg40
                  refine TL.passG rfl rfl rfl rfl ?_
                  refine TL.passG rfl rfl rfl rfl ?_
                  refine TL.passG rfl rfl rfl rfl ?_
                  refine TL.run1 (pure_pick_true rfl rfl) rfl ?_
                  refine TL.cutEnd (by repeat (first | exact Same.refl _ _ | refine Same.put rfl ?_)) rfl ?_
                  first | (simp; done) | (simp_all; done) | grind
                · try dsimp only at hg40
                  first | refine TL.runG rfl rfl (pure_load Ty.agg23 rfl (.succ (.succ (.succ (.succ (.zero _)))))) rfl ?_ | refine TL.runG rfl rfl (pure_load_own Ty.agg23 rfl (by repeat (first | exact List.Mem.head _ | apply List.Mem.tail)) (by repeat (first | exact DropR.zero _ | apply DropR.succ)) (.succ (.succ (.succ (.succ (.zero _)))))) rfl ?_
                  refine TL.runG rfl rfl (pure_call (prop_spec f hf) (.cons rfl .nil) Tryd.call48) rfl ?_
                  refine TL.runG rfl rfl (pure_not rfl) rfl ?_
                  refine TL.run1 (pure_pick_false rfl rfl) rfl ?_
                  refine TL.cutEnd (by repeat (first | exact Same.refl _ _ | refine Same.put rfl ?_)) rfl ?_
                  first | (simp; done) | (simp_all; done) | grind
              first | refine TC.condD rfl (fun hc44 => ?_) (fun hc44 => ?_) | refine TC.condN rfl (fun hc44 => ?_) (fun hc44 => ?_) | refine TC.cond rfl (fun hc44 => ?_) (fun hc44 => ?_)
              · try dsimp only at hc44
                refine TC.seq ?_
                refine TC.region ?_
                refine TL.run1 (pure_assign rfl) rfl ?_
                refine TL.nil' ?_
                refine TC.ret ?_
                refine then_ret ?_
                exact ret_int rfl (by unfold krP; rw [hk, if_pos hc44])
              · try dsimp only at hc44
                refine TC.skip' ?_
                refine TC.seq ?_
                refine TC.region ?_
                first | refine TL.run1 (pure_load Ty.agg23 rfl (.succ (.succ (.succ (.succ (.zero _)))))) rfl ?_ | refine TL.run1 (pure_load_own Ty.agg23 rfl (by repeat (first | exact List.Mem.head _ | apply List.Mem.tail)) (by repeat (first | exact DropR.zero _ | apply DropR.succ)) (.succ (.succ (.succ (.succ (.zero _)))))) rfl ?_
                refine TL.run1 (pure_move rfl) rfl ?_
                first | refine TL.run1 (pure_call (scaled_spec f 80 hf (by omega) (by omega)) (.cons rfl (.cons rfl .nil)) Tryd.call49) rfl ?_ | refine TL.run1 (pure_call (scaled_spec f 60 hf (by omega) (by omega)) (.cons rfl (.cons rfl .nil)) Tryd.call49) rfl ?_
                refine TL.run1 (pure_neg rfl (mkI64 (by omega) (by omega))) rfl ?_
                refine TL.run1 (pure_assign rfl) rfl ?_
                refine TL.nil' ?_
                refine TC.ret ?_
                exact ret_int rfl (by unfold krP; rw [hk, if_neg hc44])
            · try dsimp only at hc11
              exact absurd (by assumption) hc11
          · try dsimp only at hc11
            refine TC.seq ?_
            refine TC.region ?_
            refine TL.run1 (pure_eql_string rfl rfl) rfl ?_
            refine TL.run1 (pure_assign rfl) rfl ?_
            refine TL.nil' ?_
            first | refine TC.condD rfl (fun hc11 => ?_) (fun hc11 => ?_) | refine TC.condN rfl (fun hc11 => ?_) (fun hc11 => ?_) | refine TC.cond rfl (fun hc11 => ?_) (fun hc11 => ?_)
            · try dsimp only at hc11
              refine TC.skip' ?_
              first | refine TC.condD rfl (fun hc11 => ?_) (fun hc11 => ?_) | refine TC.condN rfl (fun hc11 => ?_) (fun hc11 => ?_) | refine TC.cond rfl (fun hc11 => ?_) (fun hc11 => ?_)
              · try dsimp only at hc11
                refine TC.region ?_
                refine TL.run1 (pure_assign rfl) rfl ?_
                refine TL.nil ?_
                refine block_normal ?_
                refine then_normal ?_
                refine TC.seq ?_
                have hk : kK (a ++ b) = 80 := by rw [hc11]; decide +kernel
                refine TC.regionCut [38, 39, 40, 41, 42, 43, 44] 44 ((80 : Int) = 0 ∨ ¬ f.face % 2 = 0) ?_ ?_
                · skip
                  refine TL.run1 (pure_move rfl) rfl ?_
                  refine TL.run1 (pure_eql rfl rfl) rfl ?_
                  refine TL.run1 (pure_move rfl) rfl ?_
                  first | refine TL.splitP 40 rfl (fun hg40 => ?_) (fun hg40 => ?_) | refine TL.split 40 rfl (fun hg40 => ?_) (fun hg40 => ?_)
                  · try dsimp only at hg40
                    refine TL.passG rfl rfl rfl rfl ?_
                    refine TL.passG rfl rfl rfl rfl ?_
                    refine TL.passG rfl rfl rfl rfl ?_
                    refine TL.run1 (pure_pick_true rfl rfl) rfl ?_
                    refine TL.cutEnd (by repeat (first | exact Same.refl _ _ | refine Same.put rfl ?_)) rfl ?_
                    first | (simp; done) | (simp_all; done) | grind
                  · try dsimp only at hg40
                    first | refine TL.runG rfl rfl (pure_load Ty.agg23 rfl (.succ (.succ (.succ (.succ (.zero _)))))) rfl ?_ | refine TL.runG rfl rfl (pure_load_own Ty.agg23 rfl (by repeat (first | exact List.Mem.head _ | apply List.Mem.tail)) (by repeat (first | exact DropR.zero _ | apply DropR.succ)) (.succ (.succ (.succ (.succ (.zero _)))))) rfl ?_
                    refine TL.runG rfl rfl (pure_call (prop_spec f hf) (.cons rfl .nil) Tryd.call48) rfl ?_
                    refine TL.runG rfl rfl (pure_not rfl) rfl ?_
                    refine TL.run1 (pure_pick_false rfl rfl) rfl ?_
                    refine TL.cutEnd (by repeat (first | exact Same.refl _ _ | refine Same.put rfl ?_)) rfl ?_
                    first | (simp; done) | (simp_all; done) | grind
                first | refine TC.condD rfl (fun hc44 => ?_) (fun hc44 => ?_) | refine TC.condN rfl (fun hc44 => ?_) (fun hc44 => ?_) | refine TC.cond rfl (fun hc44 => ?_) (fun hc44 => ?_)
                · try dsimp only at hc44
                  refine TC.seq ?_
                  refine TC.region ?_
                  refine TL.run1 (pure_assign rfl) rfl ?_
                  refine TL.nil' ?_
                  refine TC.ret ?_
                  refine then_ret ?_
                  exact ret_int rfl (by unfold krP; rw [hk, if_pos hc44])
                · try dsimp only at hc44
                  refine TC.skip' ?_
                  refine TC.seq ?_
                  refine TC.region ?_
                  first | refine TL.run1 (pure_load Ty.agg23 rfl (.succ (.succ (.succ (.succ (.zero _)))))) rfl ?_ | refine TL.run1 (pure_load_own Ty.agg23 rfl (by repeat (first | exact List.Mem.head _ | apply List.Mem.tail)) (by repeat (first | exact DropR.zero _ | apply DropR.succ)) (.succ (.succ (.succ (.succ (.zero _)))))) rfl ?_
                  refine TL.run1 (pure_move rfl) rfl ?_
                  first | refine TL.run1 (pure_call (scaled_spec f 80 hf (by omega) (by omega)) (.cons rfl (.cons rfl .nil)) Tryd.call49) rfl ?_ | refine TL.run1 (pure_call (scaled_spec f 60 hf (by omega) (by omega)) (.cons rfl (.cons rfl .nil)) Tryd.call49) rfl ?_
                  refine TL.run1 (pure_neg rfl (mkI64 (by omega) (by omega))) rfl ?_
                  refine TL.run1 (pure_assign rfl) rfl ?_
                  refine TL.nil' ?_
                  refine TC.ret ?_
                  exact ret_int rfl (by unfold krP; rw [hk, if_neg hc44])
              · try dsimp only at hc11
                exact absurd (by assumption) hc11
            · try dsimp only at hc11
              refine TC.seq ?_
              refine TC.region ?_
              refine TL.run1 (pure_eql_string rfl rfl) rfl ?_
              refine TL.run1 (pure_assign rfl) rfl ?_
              refine TL.nil' ?_
              first | refine TC.condD rfl (fun hc11 => ?_) (fun hc11 => ?_) | refine TC.condN rfl (fun hc11 => ?_) (fun hc11 => ?_) | refine TC.cond rfl (fun hc11 => ?_) (fun hc11 => ?_)
              · try dsimp only at hc11
                refine TC.skip' ?_
                first | refine TC.condD rfl (fun hc11 => ?_) (fun hc11 => ?_) | refine TC.condN rfl (fun hc11 => ?_) (fun hc11 => ?_) | refine TC.cond rfl (fun hc11 => ?_) (fun hc11 => ?_)
                · try dsimp only at hc11
                  refine TC.region ?_
                  refine TL.run1 (pure_assign rfl) rfl ?_
                  refine TL.nil ?_
                  refine block_normal ?_
                  refine then_normal ?_
                  refine TC.seq ?_
                  have hk : kK (a ++ b) = 80 := by rw [hc11]; decide +kernel
                  refine TC.regionCut [38, 39, 40, 41, 42, 43, 44] 44 ((80 : Int) = 0 ∨ ¬ f.face % 2 = 0) ?_ ?_
                  · skip
                    refine TL.run1 (pure_move rfl) rfl ?_
                    refine TL.run1 (pure_eql rfl rfl) rfl ?_
                    refine TL.run1 (pure_move rfl) rfl ?_
                    first | refine TL.splitP 40 rfl (fun hg40 => ?_) (fun hg40 => ?_) | refine TL.split 40 rfl (fun hg40 => ?_) (fun hg40 => ?_)
                    · try dsimp only at hg40
                      refine TL.passG rfl rfl rfl rfl ?_
                      refine TL.passG rfl rfl rfl rfl ?_
                      refine TL.passG rfl rfl rfl rfl ?_
                      refine TL.run1 (pure_pick_true rfl rfl) rfl ?_
                      refine TL.cutEnd (by repeat (first | exact Same.refl _ _ | refine Same.put rfl ?_)) rfl ?_
                      first | (simp; done) | (simp_all; done) | grind
                    · try dsimp only at hg40
                      first | refine TL.runG rfl rfl (pure_load Ty.agg23 rfl (.succ (.succ (.succ (.succ (.zero _)))))) rfl ?_ | refine TL.runG rfl rfl (pure_load_own Ty.agg23 rfl (by repeat (first | exact List.Mem.head _ | apply List.Mem.tail)) (by repeat (first | exact DropR.zero _ | apply DropR.succ)) (.succ (.succ (.succ (.succ (.zero _)))))) rfl ?_
                      refine TL.runG rfl rfl (pure_call (prop_spec f hf) (.cons rfl .nil) Tryd.call48) rfl ?_
                      refine TL.runG rfl rfl (pure_not rfl) rfl ?_
                      refine TL.run1 (pure_pick_false rfl rfl) rfl ?_
                      refine TL.cutEnd (by repeat (first | exact Same.refl _ _ | refine Same.put rfl ?_)) rfl ?_
                      first | (simp; done) | (simp_all; done) | grind
                  first | refine TC.condD rfl (fun hc44 => ?_) (fun hc44 => ?_) | refine TC.condN rfl (fun hc44 => ?_) (fun hc44 => ?_) | refine TC.cond rfl (fun hc44 => ?_) (fun hc44 => ?_)
                  · try dsimp only at hc44
                    refine TC.seq ?_
                    refine TC.region ?_
                    refine TL.run1 (pure_assign rfl) rfl ?_
                    refine TL.nil' ?_
                    refine TC.ret ?_
                    refine then_ret ?_
                    exact ret_int rfl (by unfold krP; rw [hk, if_pos hc44])
                  · try dsimp only at hc44
                    refine TC.skip' ?_
                    refine TC.seq ?_
                    refine TC.region ?_
                    first | refine TL.run1 (pure_load Ty.agg23 rfl (.succ (.succ (.succ (.succ (.zero _)))))) rfl ?_ | refine TL.run1 (pure_load_own Ty.agg23 rfl (by repeat (first | exact List.Mem.head _ | apply List.Mem.tail)) (by repeat (first | exact DropR.zero _ | apply DropR.succ)) (.succ (.succ (.succ (.succ (.zero _)))))) rfl ?_
                    refine TL.run1 (pure_move rfl) rfl ?_
                    first | refine TL.run1 (pure_call (scaled_spec f 80 hf (by omega) (by omega)) (.cons rfl (.cons rfl .nil)) Tryd.call49) rfl ?_ | refine TL.run1 (pure_call (scaled_spec f 60 hf (by omega) (by omega)) (.cons rfl (.cons rfl .nil)) Tryd.call49) rfl ?_
                    refine TL.run1 (pure_neg rfl (mkI64 (by omega) (by omega))) rfl ?_
                    refine TL.run1 (pure_assign rfl) rfl ?_
                    refine TL.nil' ?_
                    refine TC.ret ?_
                    exact ret_int rfl (by unfold krP; rw [hk, if_neg hc44])
                · try dsimp only at hc11
                  exact absurd (by assumption) hc11
              · try dsimp only at hc11
                refine TC.region ?_
                refine TL.run1 (pure_eql_string rfl rfl) rfl ?_
                refine TL.run1 (pure_assign rfl) rfl ?_
                refine TL.nil' ?_
                first | refine TC.condD rfl (fun hc11 => ?_) (fun hc11 => ?_) | refine TC.condN rfl (fun hc11 => ?_) (fun hc11 => ?_) | refine TC.cond rfl (fun hc11 => ?_) (fun hc11 => ?_)
                · try dsimp only at hc11
                  refine TC.region ?_
                  refine TL.run1 (pure_assign rfl) rfl ?_
                  refine TL.nil ?_
                  refine block_normal ?_
                  refine then_normal ?_
                  refine TC.seq ?_
                  have hk : kK (a ++ b) = 80 := by rw [hc11]; decide +kernel
                  refine TC.regionCut [38, 39, 40, 41, 42, 43, 44] 44 ((80 : Int) = 0 ∨ ¬ f.face % 2 = 0) ?_ ?_
                  · skip
                    refine TL.run1 (pure_move rfl) rfl ?_
                    refine TL.run1 (pure_eql rfl rfl) rfl ?_
                    refine TL.run1 (pure_move rfl) rfl ?_
                    first | refine TL.splitP 40 rfl (fun hg40 => ?_) (fun hg40 => ?_) | refine TL.split 40 rfl (fun hg40 => ?_) (fun hg40 => ?_)
                    · try dsimp only at hg40
                      refine TL.passG rfl rfl rfl rfl ?_
                      refine TL.passG rfl rfl rfl rfl ?_
                      refine TL.passG rfl rfl rfl rfl ?_
                      refine TL.run1 (pure_pick_true rfl rfl) rfl ?_
                      refine TL.cutEnd (by repeat (first | exact Same.refl _ _ | refine Same.put rfl ?_)) rfl ?_
                      first | (simp; done) | (simp_all; done) | grind
                    · try dsimp only at hg40
                      first | refine TL.runG rfl rfl (pure_load Ty.agg23 rfl (.succ (.succ (.succ (.succ (.zero _)))))) rfl ?_ | refine TL.runG rfl rfl (pure_load_own Ty.agg23 rfl (by repeat (first | exact List.Mem.head _ | apply List.Mem.tail)) (by repeat (first | exact DropR.zero _ | apply DropR.succ)) (.succ (.succ (.succ (.succ (.zero _)))))) rfl ?_
                      refine TL.runG rfl rfl (pure_call (prop_spec f hf) (.cons rfl .nil) Tryd.call48) rfl ?_
                      refine TL.runG rfl rfl (pure_not rfl) rfl ?_
                      refine TL.run1 (pure_pick_false rfl rfl) rfl ?_
                      refine TL.cutEnd (by repeat (first | exact Same.refl _ _ | refine Same.put rfl ?_)) rfl ?_
                      first | (simp; done) | (simp_all; done) | grind
                  first | refine TC.condD rfl (fun hc44 => ?_) (fun hc44 => ?_) | refine TC.condN rfl (fun hc44 => ?_) (fun hc44 => ?_) | refine TC.cond rfl (fun hc44 => ?_) (fun hc44 => ?_)
                  · try dsimp only at hc44
                    refine TC.seq ?_
                    refine TC.region ?_
                    refine TL.run1 (pure_assign rfl) rfl ?_
                    refine TL.nil' ?_
                    refine TC.ret ?_
                    refine then_ret ?_
                    exact ret_int rfl (by unfold krP; rw [hk, if_pos hc44])
                  · try dsimp only at hc44
                    refine TC.skip' ?_
                    refine TC.seq ?_
                    refine TC.region ?_
                    first | refine TL.run1 (pure_load Ty.agg23 rfl (.succ (.succ (.succ (.succ (.zero _)))))) rfl ?_ | refine TL.run1 (pure_load_own Ty.agg23 rfl (by repeat (first | exact List.Mem.head _ | apply List.Mem.tail)) (by repeat (first | exact DropR.zero _ | apply DropR.succ)) (.succ (.succ (.succ (.succ (.zero _)))))) rfl ?_
                    refine TL.run1 (pure_move rfl) rfl ?_
                    first | refine TL.run1 (pure_call (scaled_spec f 80 hf (by omega) (by omega)) (.cons rfl (.cons rfl .nil)) Tryd.call49) rfl ?_ | refine TL.run1 (pure_call (scaled_spec f 60 hf (by omega) (by omega)) (.cons rfl (.cons rfl .nil)) Tryd.call49) rfl ?_
                    refine TL.run1 (pure_neg rfl (mkI64 (by omega) (by omega))) rfl ?_
                    refine TL.run1 (pure_assign rfl) rfl ?_
                    refine TL.nil' ?_
                    refine TC.ret ?_
                    exact ret_int rfl (by unfold krP; rw [hk, if_neg hc44])
                · try dsimp only at hc11
                  refine TC.seq ?_
                  refine TC.seq ?_
                  refine TC.region ?_
                  refine TL.run1 (pure_eql_string rfl rfl) rfl ?_
                  refine TL.run1 (pure_assign rfl) rfl ?_
                  refine TL.nil' ?_
                  first | refine TC.condD rfl (fun hc20 => ?_) (fun hc20 => ?_) | refine TC.condN rfl (fun hc20 => ?_) (fun hc20 => ?_) | refine TC.cond rfl (fun hc20 => ?_) (fun hc20 => ?_)
                  · try dsimp only at hc20
                    refine TC.skip' ?_
                    first | refine TC.condD rfl (fun hc20 => ?_) (fun hc20 => ?_) | refine TC.condN rfl (fun hc20 => ?_) (fun hc20 => ?_) | refine TC.cond rfl (fun hc20 => ?_) (fun hc20 => ?_)
                    · try dsimp only at hc20
                      refine TC.region ?_
                      refine TL.run1 (pure_assign rfl) rfl ?_
                      refine TL.nil ?_
                      refine block_normal ?_
                      refine then_normal ?_
                      refine TC.seq ?_
                      have hk : kK (a ++ b) = 60 := by rw [hc20]; decide +kernel
                      refine TC.regionCut [38, 39, 40, 41, 42, 43, 44] 44 ((60 : Int) = 0 ∨ ¬ f.face % 2 = 0) ?_ ?_
                      · skip
                        refine TL.run1 (pure_move rfl) rfl ?_
                        refine TL.run1 (pure_eql rfl rfl) rfl ?_
                        refine TL.run1 (pure_move rfl) rfl ?_
                        first | refine TL.splitP 40 rfl (fun hg40 => ?_) (fun hg40 => ?_) | refine TL.split 40 rfl (fun hg40 => ?_) (fun hg40 => ?_)
                        · try dsimp only at hg40
                          refine TL.passG rfl rfl rfl rfl ?_
                          refine TL.passG rfl rfl rfl rfl ?_
                          refine TL.passG rfl rfl rfl rfl ?_
                          refine TL.run1 (pure_pick_true rfl rfl) rfl ?_
                          refine TL.cutEnd (by repeat (first | exact Same.refl _ _ | refine Same.put rfl ?_)) rfl ?_
                          first | (simp; done) | (simp_all; done) | grind
                        · try dsimp only at hg40
                          first | refine TL.runG rfl rfl (pure_load Ty.agg23 rfl (.succ (.succ (.succ (.succ (.zero _)))))) rfl ?_ | refine TL.runG rfl rfl (pure_load_own Ty.agg23 rfl (by repeat (first | exact List.Mem.head _ | apply List.Mem.tail)) (by repeat (first | exact DropR.zero _ | apply DropR.succ)) (.succ (.succ (.succ (.succ (.zero _)))))) rfl ?_
                          refine TL.runG rfl rfl (pure_call (prop_spec f hf) (.cons rfl .nil) Tryd.call48) rfl ?_
                          refine TL.runG rfl rfl (pure_not rfl) rfl ?_
                          refine TL.run1 (pure_pick_false rfl rfl) rfl ?_
                          refine TL.cutEnd (by repeat (first | exact Same.refl _ _ | refine Same.put rfl ?_)) rfl ?_
                          first | (simp; done) | (simp_all; done) | grind
                      first | refine TC.condD rfl (fun hc44 => ?_) (fun hc44 => ?_) | refine TC.condN rfl (fun hc44 => ?_) (fun hc44 => ?_) | refine TC.cond rfl (fun hc44 => ?_) (fun hc44 => ?_)
                      · try dsimp only at hc44
                        refine TC.seq ?_
                        refine TC.region ?_
                        refine TL.run1 (pure_assign rfl) rfl ?_
                        refine TL.nil' ?_
                        refine TC.ret ?_
                        refine then_ret ?_
                        exact ret_int rfl (by unfold krP; rw [hk, if_pos hc44])
                      · try dsimp only at hc44
                        refine TC.skip' ?_
                        refine TC.seq ?_
                        refine TC.region ?_
                        first | refine TL.run1 (pure_load Ty.agg23 rfl (.succ (.succ (.succ (.succ (.zero _)))))) rfl ?_ | refine TL.run1 (pure_load_own Ty.agg23 rfl (by repeat (first | exact List.Mem.head _ | apply List.Mem.tail)) (by repeat (first | exact DropR.zero _ | apply DropR.succ)) (.succ (.succ (.succ (.succ (.zero _)))))) rfl ?_
                        refine TL.run1 (pure_move rfl) rfl ?_
                        first | refine TL.run1 (pure_call (scaled_spec f 80 hf (by omega) (by omega)) (.cons rfl (.cons rfl .nil)) Tryd.call49) rfl ?_ | refine TL.run1 (pure_call (scaled_spec f 60 hf (by omega) (by omega)) (.cons rfl (.cons rfl .nil)) Tryd.call49) rfl ?_
                        refine TL.run1 (pure_neg rfl (mkI64 (by omega) (by omega))) rfl ?_
                        refine TL.run1 (pure_assign rfl) rfl ?_
                        refine TL.nil' ?_
                        refine TC.ret ?_
                        exact ret_int rfl (by unfold krP; rw [hk, if_neg hc44])
                    · try dsimp only at hc20
                      exact absurd (by assumption) hc20
                  · try dsimp only at hc20
                    refine TC.seq ?_
                    refine TC.region ?_
                    refine TL.run1 (pure_eql_string rfl rfl) rfl ?_
                    refine TL.run1 (pure_assign rfl) rfl ?_
                    refine TL.nil' ?_
                    first | refine TC.condD rfl (fun hc20 => ?_) (fun hc20 => ?_) | refine TC.condN rfl (fun hc20 => ?_) (fun hc20 => ?_) | refine TC.cond rfl (fun hc20 => ?_) (fun hc20 => ?_)
                    · try dsimp only at hc20
                      refine TC.skip' ?_
                      first | refine TC.condD rfl (fun hc20 => ?_) (fun hc20 => ?_) | refine TC.condN rfl (fun hc20 => ?_) (fun hc20 => ?_) | refine TC.cond rfl (fun hc20 => ?_) (fun hc20 => ?_)
                      · try dsimp only at hc20
                        refine TC.region ?_
                        refine TL.run1 (pure_assign rfl) rfl ?_
                        refine TL.nil ?_
                        refine block_normal ?_
                        refine then_normal ?_
                        refine TC.seq ?_
                        have hk : kK (a ++ b) = 60 := by rw [hc20]; decide +kernel
                        refine TC.regionCut [38, 39, 40, 41, 42, 43, 44] 44 ((60 : Int) = 0 ∨ ¬ f.face % 2 = 0) ?_ ?_
                        · skip
                          refine TL.run1 (pure_move rfl) rfl ?_
                          refine TL.run1 (pure_eql rfl rfl) rfl ?_
                          refine TL.run1 (pure_move rfl) rfl ?_
                          first | refine TL.splitP 40 rfl (fun hg40 => ?_) (fun hg40 => ?_) | refine TL.split 40 rfl (fun hg40 => ?_) (fun hg40 => ?_)
                          · try dsimp only at hg40
                            refine TL.passG rfl rfl rfl rfl ?_
                            refine TL.passG rfl rfl rfl rfl ?_
                            refine TL.passG rfl rfl rfl rfl ?_
                            refine TL.run1 (pure_pick_true rfl rfl) rfl ?_
                            refine TL.cutEnd (by repeat (first | exact Same.refl _ _ | refine Same.put rfl ?_)) rfl ?_
                            first | (simp; done) | (simp_all; done) | grind
                          · try dsimp only at hg40
                            first | refine TL.runG rfl rfl (pure_load Ty.agg23 rfl (.succ (.succ (.succ (.succ (.zero _)))))) rfl ?_ | refine TL.runG rfl rfl (pure_load_own Ty.agg23 rfl (by repeat (first | exact List.Mem.head _ | apply List.Mem.tail)) (by repeat (first | exact DropR.zero _ | apply DropR.succ)) (.succ (.succ (.succ (.succ (.zero _)))))) rfl ?_
                            refine TL.runG rfl rfl (pure_call (prop_spec f hf) (.cons rfl .nil) Tryd.call48) rfl ?_
                            refine TL.runG rfl rfl (pure_not rfl) rfl ?_
                            refine TL.run1 (pure_pick_false rfl rfl) rfl ?_
                            refine TL.cutEnd (by repeat (first | exact Same.refl _ _ | refine Same.put rfl ?_)) rfl ?_
                            first | (simp; done) | (simp_all; done) | grind
                        first | refine TC.condD rfl (fun hc44 => ?_) (fun hc44 => ?_) | refine TC.condN rfl (fun hc44 => ?_) (fun hc44 => ?_) | refine TC.cond rfl (fun hc44 => ?_) (fun hc44 => ?_)
                        · try dsimp only at hc44
                          refine TC.seq ?_
                          refine TC.region ?_
                          refine TL.run1 (pure_assign rfl) rfl ?_
                          refine TL.nil' ?_
                          refine TC.ret ?_
                          refine then_ret ?_
                          exact ret_int rfl (by unfold krP; rw [hk, if_pos hc44])
                        · try dsimp only at hc44
                          refine TC.skip' ?_
                          refine TC.seq ?_
                          refine TC.region ?_
                          first | refine TL.run1 (pure_load Ty.agg23 rfl (.succ (.succ (.succ (.succ (.zero _)))))) rfl ?_ | refine TL.run1 (pure_load_own Ty.agg23 rfl (by repeat (first | exact List.Mem.head _ | apply List.Mem.tail)) (by repeat (first | exact DropR.zero _ | apply DropR.succ)) (.succ (.succ (.succ (.succ (.zero _)))))) rfl ?_
                          refine TL.run1 (pure_move rfl) rfl ?_
                          first | refine TL.run1 (pure_call (scaled_spec f 80 hf (by omega) (by omega)) (.cons rfl (.cons rfl .nil)) Tryd.call49) rfl ?_ | refine TL.run1 (pure_call (scaled_spec f 60 hf (by omega) (by omega)) (.cons rfl (.cons rfl .nil)) Tryd.call49) rfl ?_
                          refine TL.run1 (pure_neg rfl (mkI64 (by omega) (by omega))) rfl ?_
                          refine TL.run1 (pure_assign rfl) rfl ?_
                          refine TL.nil' ?_
                          refine TC.ret ?_
                          exact ret_int rfl (by unfold krP; rw [hk, if_neg hc44])
                      · try dsimp only at hc20
                        exact absurd (by assumption) hc20
                    · try dsimp only at hc20
                      refine TC.seq ?_
                      refine TC.region ?_
                      refine TL.run1 (pure_eql_string rfl rfl) rfl ?_
                      refine TL.run1 (pure_assign rfl) rfl ?_
                      refine TL.nil' ?_
                      first | refine TC.condD rfl (fun hc20 => ?_) (fun hc20 => ?_) | refine TC.condN rfl (fun hc20 => ?_) (fun hc20 => ?_) | refine TC.cond rfl (fun hc20 => ?_) (fun hc20 => ?_)
                      · try dsimp only at hc20
                        refine TC.skip' ?_
                        first | refine TC.condD rfl (fun hc20 => ?_) (fun hc20 => ?_) | refine TC.condN rfl (fun hc20 => ?_) (fun hc20 => ?_) | refine TC.cond rfl (fun hc20 => ?_) (fun hc20 => ?_)
                        · try dsimp only at hc20
                          refine TC.region ?_
                          refine TL.run1 (pure_assign rfl) rfl ?_
                          refine TL.nil ?_
                          refine block_normal ?_
                          refine then_normal ?_
                          refine TC.seq ?_
                          have hk : kK (a ++ b) = 60 := by rw [hc20]; decide +kernel
                          refine TC.regionCut [38, 39, 40, 41, 42, 43, 44] 44 ((60 : Int) = 0 ∨ ¬ f.face % 2 = 0) ?_ ?_
                          · skip
                            refine TL.run1 (pure_move rfl) rfl ?_
                            refine TL.run1 (pure_eql rfl rfl) rfl ?_
                            refine TL.run1 (pure_move rfl) rfl ?_
                            first | refine TL.splitP 40 rfl (fun hg40 => ?_) (fun hg40 => ?_) | refine TL.split 40 rfl (fun hg40 => ?_) (fun hg40 => ?_)
                            · try dsimp only at hg40
                              refine TL.passG rfl rfl rfl rfl ?_
                              refine TL.passG rfl rfl rfl rfl ?_
                              refine TL.passG rfl rfl rfl rfl ?_
                              refine TL.run1 (pure_pick_true rfl rfl) rfl ?_
                              refine TL.cutEnd (by repeat (first | exact Same.refl _ _ | refine Same.put rfl ?_)) rfl ?_
                              first | (simp; done) | (simp_all; done) | grind
                            · try dsimp only at hg40
                              first | refine TL.runG rfl rfl (pure_load Ty.agg23 rfl (.succ (.succ (.succ (.succ (.zero _)))))) rfl ?_ | refine TL.runG rfl rfl (pure_load_own Ty.agg23 rfl (by repeat (first | exact List.Mem.head _ | apply List.Mem.tail)) (by repeat (first | exact DropR.zero _ | apply DropR.succ)) (.succ (.succ (.succ (.succ (.zero _)))))) rfl ?_
                              refine TL.runG rfl rfl (pure_call (prop_spec f hf) (.cons rfl .nil) Tryd.call48) rfl ?_
                              refine TL.runG rfl rfl (pure_not rfl) rfl ?_
                              refine TL.run1 (pure_pick_false rfl rfl) rfl ?_
                              refine TL.cutEnd (by repeat (first | exact Same.refl _ _ | refine Same.put rfl ?_)) rfl ?_
                              first | (simp; done) | (simp_all; done) | grind
                          first | refine TC.condD rfl (fun hc44 => ?_) (fun hc44 => ?_) | refine TC.condN rfl (fun hc44 => ?_) (fun hc44 => ?_) | refine TC.cond rfl (fun hc44 => ?_) (fun hc44 => ?_)
                          · try dsimp only at hc44
                            refine TC.seq ?_
                            refine TC.region ?_
                            refine TL.run1 (pure_assign rfl) rfl ?_
                            refine TL.nil' ?_
                            refine TC.ret ?_
                            refine then_ret ?_
                            exact ret_int rfl (by unfold krP; rw [hk, if_pos hc44])
                          · try dsimp only at hc44
                            refine TC.skip' ?_
                            refine TC.seq ?_
                            refine TC.region ?_
                            first | refine TL.run1 (pure_load Ty.agg23 rfl (.succ (.succ (.succ (.succ (.zero _)))))) rfl ?_ | refine TL.run1 (pure_load_own Ty.agg23 rfl (by repeat (first | exact List.Mem.head _ | apply List.Mem.tail)) (by repeat (first | exact DropR.zero _ | apply DropR.succ)) (.succ (.succ (.succ (.succ (.zero _)))))) rfl ?_
                            refine TL.run1 (pure_move rfl) rfl ?_
                            first | refine TL.run1 (pure_call (scaled_spec f 80 hf (by omega) (by omega)) (.cons rfl (.cons rfl .nil)) Tryd.call49) rfl ?_ | refine TL.run1 (pure_call (scaled_spec f 60 hf (by omega) (by omega)) (.cons rfl (.cons rfl .nil)) Tryd.call49) rfl ?_
                            refine TL.run1 (pure_neg rfl (mkI64 (by omega) (by omega))) rfl ?_
                            refine TL.run1 (pure_assign rfl) rfl ?_
                            refine TL.nil' ?_
                            refine TC.ret ?_
                            exact ret_int rfl (by unfold krP; rw [hk, if_neg hc44])
                        · try dsimp only at hc20
                          exact absurd (by assumption) hc20
                      · try dsimp only at hc20
                        refine TC.seq ?_
                        refine TC.region ?_
                        refine TL.run1 (pure_eql_string rfl rfl) rfl ?_
                        refine TL.run1 (pure_assign rfl) rfl ?_
                        refine TL.nil' ?_
                        first | refine TC.condD rfl (fun hc20 => ?_) (fun hc20 => ?_) | refine TC.condN rfl (fun hc20 => ?_) (fun hc20 => ?_) | refine TC.cond rfl (fun hc20 => ?_) (fun hc20 => ?_)
                        · try dsimp only at hc20
                          refine TC.skip' ?_
                          first | refine TC.condD rfl (fun hc20 => ?_) (fun hc20 => ?_) | refine TC.condN rfl (fun hc20 => ?_) (fun hc20 => ?_) | refine TC.cond rfl (fun hc20 => ?_) (fun hc20 => ?_)
                          · try dsimp only at hc20
                            refine TC.region ?_
                            refine TL.run1 (pure_assign rfl) rfl ?_
                            refine TL.nil ?_
                            refine block_normal ?_
                            refine then_normal ?_
                            refine TC.seq ?_
                            have hk : kK (a ++ b) = 60 := by rw [hc20]; decide +kernel
                            refine TC.regionCut [38, 39, 40, 41, 42, 43, 44] 44 ((60 : Int) = 0 ∨ ¬ f.face % 2 = 0) ?_ ?_
                            · skip
                              refine TL.run1 (pure_move rfl) rfl ?_
                              refine TL.run1 (pure_eql rfl rfl) rfl ?_
                              refine TL.run1 (pure_move rfl) rfl ?_
                              first | refine TL.splitP 40 rfl (fun hg40 => ?_) (fun hg40 => ?_) | refine TL.split 40 rfl (fun hg40 => ?_) (fun hg40 => ?_)
                              · try dsimp only at hg40
                                refine TL.passG rfl rfl rfl rfl ?_
                                refine TL.passG rfl rfl rfl rfl ?_
                                refine TL.passG rfl rfl rfl rfl ?_
                                refine TL.run1 (pure_pick_true rfl rfl) rfl ?_
                                refine TL.cutEnd (by repeat (first | exact Same.refl _ _ | refine Same.put rfl ?_)) rfl ?_
                                first | (simp; done) | (simp_all; done) | grind
                              · try dsimp only at hg40
                                first | refine TL.runG rfl rfl (pure_load Ty.agg23 rfl (.succ (.succ (.succ (.succ (.zero _)))))) rfl ?_ | refine TL.runG rfl rfl (pure_load_own Ty.agg23 rfl (by repeat (first | exact List.Mem.head _ | apply List.Mem.tail)) (by repeat (first | exact DropR.zero _ | apply DropR.succ)) (.succ (.succ (.succ (.succ (.zero _)))))) rfl ?_
                                refine TL.runG rfl rfl (pure_call (prop_spec f hf) (.cons rfl .nil) Tryd.call48) rfl ?_
                                refine TL.runG rfl rfl (pure_not rfl) rfl ?_
                                refine TL.run1 (pure_pick_false rfl rfl) rfl ?_
                                refine TL.cutEnd (by repeat (first | exact Same.refl _ _ | refine Same.put rfl ?_)) rfl ?_
                                first | (simp; done) | (simp_all; done) | grind
                            first | refine TC.condD rfl (fun hc44 => ?_) (fun hc44 => ?_) | refine TC.condN rfl (fun hc44 => ?_) (fun hc44 => ?_) | refine TC.cond rfl (fun hc44 => ?_) (fun hc44 => ?_)
                            · try dsimp only at hc44
                              refine TC.seq ?_
                              refine TC.region ?_
                              refine TL.run1 (pure_assign rfl) rfl ?_
                              refine TL.nil' ?_
                              refine TC.ret ?_
                              refine then_ret ?_
                              exact ret_int rfl (by unfold krP; rw [hk, if_pos hc44])
                            · try dsimp only at hc44
                              refine TC.skip' ?_
                              refine TC.seq ?_
                              refine TC.region ?_
                              first | refine TL.run1 (pure_load Ty.agg23 rfl (.succ (.succ (.succ (.succ (.zero _)))))) rfl ?_ | refine TL.run1 (pure_load_own Ty.agg23 rfl (by repeat (first | exact List.Mem.head _ | apply List.Mem.tail)) (by repeat (first | exact DropR.zero _ | apply DropR.succ)) (.succ (.succ (.succ (.succ (.zero _)))))) rfl ?_
                              refine TL.run1 (pure_move rfl) rfl ?_
                              first | refine TL.run1 (pure_call (scaled_spec f 80 hf (by omega) (by omega)) (.cons rfl (.cons rfl .nil)) Tryd.call49) rfl ?_ | refine TL.run1 (pure_call (scaled_spec f 60 hf (by omega) (by omega)) (.cons rfl (.cons rfl .nil)) Tryd.call49) rfl ?_
                              refine TL.run1 (pure_neg rfl (mkI64 (by omega) (by omega))) rfl ?_
                              refine TL.run1 (pure_assign rfl) rfl ?_
                              refine TL.nil' ?_
                              refine TC.ret ?_
                              exact ret_int rfl (by unfold krP; rw [hk, if_neg hc44])
                          · try dsimp only at hc20
                            exact absurd (by assumption) hc20
                        · try dsimp only at hc20
                          refine TC.seq ?_
                          refine TC.region ?_
                          refine TL.run1 (pure_eql_string rfl rfl) rfl ?_
                          refine TL.run1 (pure_assign rfl) rfl ?_
                          refine TL.nil' ?_
                          first | refine TC.condD rfl (fun hc20 => ?_) (fun hc20 => ?_) | refine TC.condN rfl (fun hc20 => ?_) (fun hc20 => ?_) | refine TC.cond rfl (fun hc20 => ?_) (fun hc20 => ?_)
                          · try dsimp only at hc20
                            refine TC.skip' ?_
                            first | refine TC.condD rfl (fun hc20 => ?_) (fun hc20 => ?_) | refine TC.condN rfl (fun hc20 => ?_) (fun hc20 => ?_) | refine TC.cond rfl (fun hc20 => ?_) (fun hc20 => ?_)
                            · try dsimp only at hc20
                              refine TC.region ?_
                              refine TL.run1 (pure_assign rfl) rfl ?_
                              refine TL.nil ?_
                              refine block_normal ?_
                              refine then_normal ?_
                              refine TC.seq ?_
                              have hk : kK (a ++ b) = 60 := by rw [hc20]; decide +kernel
                              refine TC.regionCut [38, 39, 40, 41, 42, 43, 44] 44 ((60 : Int) = 0 ∨ ¬ f.face % 2 = 0) ?_ ?_
                              · skip
                                refine TL.run1 (pure_move rfl) rfl ?_
                                refine TL.run1 (pure_eql rfl rfl) rfl ?_
                                refine TL.run1 (pure_move rfl) rfl ?_
                                first | refine TL.splitP 40 rfl (fun hg40 => ?_) (fun hg40 => ?_) | refine TL.split 40 rfl (fun hg40 => ?_) (fun hg40 => ?_)
                                · try dsimp only at hg40
                                  refine TL.passG rfl rfl rfl rfl ?_
                                  refine TL.passG rfl rfl rfl rfl ?_
                                  refine TL.passG rfl rfl rfl rfl ?_
                                  refine TL.run1 (pure_pick_true rfl rfl) rfl ?_
                                  refine TL.cutEnd (by repeat (first | exact Same.refl _ _ | refine Same.put rfl ?_)) rfl ?_
                                  first | (simp; done) | (simp_all; done) | grind
                                · try dsimp only at hg40
                                  first | refine TL.runG rfl rfl (pure_load Ty.agg23 rfl (.succ (.succ (.succ (.succ (.zero _)))))) rfl ?_ | refine TL.runG rfl rfl (pure_load_own Ty.agg23 rfl (by repeat (first | exact List.Mem.head _ | apply List.Mem.tail)) (by repeat (first | exact DropR.zero _ | apply DropR.succ)) (.succ (.succ (.succ (.succ (.zero _)))))) rfl ?_
                                  refine TL.runG rfl rfl (pure_call (prop_spec f hf) (.cons rfl .nil) Tryd.call48) rfl ?_
                                  refine TL.runG rfl rfl (pure_not rfl) rfl ?_
                                  refine TL.run1 (pure_pick_false rfl rfl) rfl ?_
                                  refine TL.cutEnd (by repeat (first | exact Same.refl _ _ | refine Same.put rfl ?_)) rfl ?_
                                  first | (simp; done) | (simp_all; done) | grind
                              first | refine TC.condD rfl (fun hc44 => ?_) (fun hc44 => ?_) | refine TC.condN rfl (fun hc44 => ?_) (fun hc44 => ?_) | refine TC.cond rfl (fun hc44 => ?_) (fun hc44 => ?_)
                              · try dsimp only at hc44
                                refine TC.seq ?_
                                refine TC.region ?_
                                refine TL.run1 (pure_assign rfl) rfl ?_
                                refine TL.nil' ?_
                                refine TC.ret ?_
                                refine then_ret ?_
                                exact ret_int rfl (by unfold krP; rw [hk, if_pos hc44])
                              · try dsimp only at hc44
                                refine TC.skip' ?_
                                refine TC.seq ?_
                                refine TC.region ?_
                                first | refine TL.run1 (pure_load Ty.agg23 rfl (.succ (.succ (.succ (.succ (.zero _)))))) rfl ?_ | refine TL.run1 (pure_load_own Ty.agg23 rfl (by repeat (first | exact List.Mem.head _ | apply List.Mem.tail)) (by repeat (first | exact DropR.zero _ | apply DropR.succ)) (.succ (.succ (.succ (.succ (.zero _)))))) rfl ?_
                                refine TL.run1 (pure_move rfl) rfl ?_
                                first | refine TL.run1 (pure_call (scaled_spec f 80 hf (by omega) (by omega)) (.cons rfl (.cons rfl .nil)) Tryd.call49) rfl ?_ | refine TL.run1 (pure_call (scaled_spec f 60 hf (by omega) (by omega)) (.cons rfl (.cons rfl .nil)) Tryd.call49) rfl ?_
                                refine TL.run1 (pure_neg rfl (mkI64 (by omega) (by omega))) rfl ?_
                                refine TL.run1 (pure_assign rfl) rfl ?_
                                refine TL.nil' ?_
                                refine TC.ret ?_
                                exact ret_int rfl (by unfold krP; rw [hk, if_neg hc44])
                            · try dsimp only at hc20
                              exact absurd (by assumption) hc20
                          · try dsimp only at hc20
                            refine TC.seq ?_
                            refine TC.region ?_
                            refine TL.run1 (pure_eql_string rfl rfl) rfl ?_
                            refine TL.run1 (pure_assign rfl) rfl ?_
                            refine TL.nil' ?_
                            first | refine TC.condD rfl (fun hc20 => ?_) (fun hc20 => ?_) | refine TC.condN rfl (fun hc20 => ?_) (fun hc20 => ?_) | refine TC.cond rfl (fun hc20 => ?_) (fun hc20 => ?_)
                            · try dsimp only at hc20
                              refine TC.skip' ?_
                              first | refine TC.condD rfl (fun hc20 => ?_) (fun hc20 => ?_) | refine TC.condN rfl (fun hc20 => ?_) (fun hc20 => ?_) | refine TC.cond rfl (fun hc20 => ?_) (fun hc20 => ?_)
                              · try dsimp only at hc20
                                refine TC.region ?_
                                refine TL.run1 (pure_assign rfl) rfl ?_
                                refine TL.nil ?_
                                refine block_normal ?_
                                refine then_normal ?_
                                refine TC.seq ?_
                                have hk : kK (a ++ b) = 60 := by rw [hc20]; decide +kernel
                                refine TC.regionCut [38, 39, 40, 41, 42, 43, 44] 44 ((60 : Int) = 0 ∨ ¬ f.face % 2 = 0) ?_ ?_
                                · skip
                                  refine TL.run1 (pure_move rfl) rfl ?_
                                  refine TL.run1 (pure_eql rfl rfl) rfl ?_
                                  refine TL.run1 (pure_move rfl) rfl ?_
                                  first | refine TL.splitP 40 rfl (fun hg40 => ?_) (fun hg40 => ?_) | refine TL.split 40 rfl (fun hg40 => ?_) (fun hg40 => ?_)
                                  · try dsimp only at hg40
                                    refine TL.passG rfl rfl rfl rfl ?_
                                    refine TL.passG rfl rfl rfl rfl ?_
                                    refine TL.passG rfl rfl rfl rfl ?_
                                    refine TL.run1 (pure_pick_true rfl rfl) rfl ?_
                                    refine TL.cutEnd (by repeat (first | exact Same.refl _ _ | refine Same.put rfl ?_)) rfl ?_
                                    first | (simp; done) | (simp_all; done) | grind
                                  · try dsimp only at hg40
                                    first | refine TL.runG rfl rfl (pure_load Ty.agg23 rfl (.succ (.succ (.succ (.succ (.zero _)))))) rfl ?_ | refine TL.runG rfl rfl (pure_load_own Ty.agg23 rfl (by repeat (first | exact List.Mem.head _ | apply List.Mem.tail)) (by repeat (first | exact DropR.zero _ | apply DropR.succ)) (.succ (.succ (.succ (.succ (.zero _)))))) rfl ?_
                                    refine TL.runG rfl rfl (pure_call (prop_spec f hf) (.cons rfl .nil) Tryd.call48) rfl ?_
                                    refine TL.runG rfl rfl (pure_not rfl) rfl ?_
                                    refine TL.run1 (pure_pick_false rfl rfl) rfl ?_
                                    refine TL.cutEnd (by repeat (first | exact Same.refl _ _ | refine Same.put rfl ?_)) rfl ?_
                                    first | (simp; done) | (simp_all; done) | grind
                                first | refine TC.condD rfl (fun hc44 => ?_) (fun hc44 => ?_) | refine TC.condN rfl (fun hc44 => ?_) (fun hc44 => ?_) | refine TC.cond rfl (fun hc44 => ?_) (fun hc44 => ?_)
                                · try dsimp only at hc44
                                  refine TC.seq ?_
                                  refine TC.region ?_
                                  refine TL.run1 (pure_assign rfl) rfl ?_
                                  refine TL.nil' ?_
                                  refine TC.ret ?_
                                  refine then_ret ?_
                                  exact ret_int rfl (by unfold krP; rw [hk, if_pos hc44])
                                · try dsimp only at hc44
                                  refine TC.skip' ?_
                                  refine TC.seq ?_
                                  refine TC.region ?_
                                  first | refine TL.run1 (pure_load Ty.agg23 rfl (.succ (.succ (.succ (.succ (.zero _)))))) rfl ?_ | refine TL.run1 (pure_load_own Ty.agg23 rfl (by repeat (first | exact List.Mem.head _ | apply List.Mem.tail)) (by repeat (first | exact DropR.zero _ | apply DropR.succ)) (.succ (.succ (.succ (.succ (.zero _)))))) rfl ?_
                                  refine TL.run1 (pure_move rfl) rfl ?_
                                  first | refine TL.run1 (pure_call (scaled_spec f 80 hf (by omega) (by omega)) (.cons rfl (.cons rfl .nil)) Tryd.call49) rfl ?_ | refine TL.run1 (pure_call (scaled_spec f 60 hf (by omega) (by omega)) (.cons rfl (.cons rfl .nil)) Tryd.call49) rfl ?_
                                  refine TL.run1 (pure_neg rfl (mkI64 (by omega) (by omega))) rfl ?_
                                  refine TL.run1 (pure_assign rfl) rfl ?_
                                  refine TL.nil' ?_
                                  refine TC.ret ?_
                                  exact ret_int rfl (by unfold krP; rw [hk, if_neg hc44])
                              · try dsimp only at hc20
                                exact absurd (by assumption) hc20
                            · try dsimp only at hc20
                              refine TC.seq ?_
                              refine TC.region ?_
                              refine TL.run1 (pure_eql_string rfl rfl) rfl ?_
                              refine TL.run1 (pure_assign rfl) rfl ?_
                              refine TL.nil' ?_
                              first | refine TC.condD rfl (fun hc20 => ?_) (fun hc20 => ?_) | refine TC.condN rfl (fun hc20 => ?_) (fun hc20 => ?_) | refine TC.cond rfl (fun hc20 => ?_) (fun hc20 => ?_)
                              · try dsimp only at hc20
                                refine TC.skip' ?_
                                first | refine TC.condD rfl (fun hc20 => ?_) (fun hc20 => ?_) | refine TC.condN rfl (fun hc20 => ?_) (fun hc20 => ?_) | refine TC.cond rfl (fun hc20 => ?_) (fun hc20 => ?_)
                                · try dsimp only at hc20
                                  refine TC.region ?_
                                  refine TL.run1 (pure_assign rfl) rfl ?_
                                  refine TL.nil ?_
                                  refine block_normal ?_
                                  refine then_normal ?_
                                  refine TC.seq ?_
                                  have hk : kK (a ++ b) = 60 := by rw [hc20]; decide +kernel
                                  refine TC.regionCut [38, 39, 40, 41, 42, 43, 44] 44 ((60 : Int) = 0 ∨ ¬ f.face % 2 = 0) ?_ ?_
                                  · skip
                                    refine TL.run1 (pure_move rfl) rfl ?_
                                    refine TL.run1 (pure_eql rfl rfl) rfl ?_
                                    refine TL.run1 (pure_move rfl) rfl ?_
                                    first | refine TL.splitP 40 rfl (fun hg40 => ?_) (fun hg40 => ?_) | refine TL.split 40 rfl (fun hg40 => ?_) (fun hg40 => ?_)
                                    · try dsimp only at hg40
                                      refine TL.passG rfl rfl rfl rfl ?_
                                      refine TL.passG rfl rfl rfl rfl ?_
                                      refine TL.passG rfl rfl rfl rfl ?_
                                      refine TL.run1 (pure_pick_true rfl rfl) rfl ?_
                                      refine TL.cutEnd (by repeat (first | exact Same.refl _ _ | refine Same.put rfl ?_)) rfl ?_
                                      first | (simp; done) | (simp_all; done) | grind
                                    · try dsimp only at hg40
                                      first | refine TL.runG rfl rfl (pure_load Ty.agg23 rfl (.succ (.succ (.succ (.succ (.zero _)))))) rfl ?_ | refine TL.runG rfl rfl (pure_load_own Ty.agg23 rfl (by repeat (first | exact List.Mem.head _ | apply List.Mem.tail)) (by repeat (first | exact DropR.zero _ | apply DropR.succ)) (.succ (.succ (.succ (.succ (.zero _)))))) rfl ?_
                                      refine TL.runG rfl rfl (pure_call (prop_spec f hf) (.cons rfl .nil) Tryd.call48) rfl ?_
                                      refine TL.runG rfl rfl (pure_not rfl) rfl ?_
                                      refine TL.run1 (pure_pick_false rfl rfl) rfl ?_
                                      refine TL.cutEnd (by repeat (first | exact Same.refl _ _ | refine Same.put rfl ?_)) rfl ?_
                                      first | (simp; done) | (simp_all; done) | grind
                                  first | refine TC.condD rfl (fun hc44 => ?_) (fun hc44 => ?_) | refine TC.condN rfl (fun hc44 => ?_) (fun hc44 => ?_) | refine TC.cond rfl (fun hc44 => ?_) (fun hc44 => ?_)
                                  · try dsimp only at hc44
                                    refine TC.seq ?_
                                    refine TC.region ?_
                                    refine TL.run1 (pure_assign rfl) rfl ?_
                                    refine TL.nil' ?_
                                    refine TC.ret ?_
                                    refine then_ret ?_
                                    exact ret_int rfl (by unfold krP; rw [hk, if_pos hc44])
                                  · try dsimp only at hc44
                                    refine TC.skip' ?_
                                    refine TC.seq ?_
                                    refine TC.region ?_
                                    first | refine TL.run1 (pure_load Ty.agg23 rfl (.succ (.succ (.succ (.succ (.zero _)))))) rfl ?_ | refine TL.run1 (pure_load_own Ty.agg23 rfl (by repeat (first | exact List.Mem.head _ | apply List.Mem.tail)) (by repeat (first | exact DropR.zero _ | apply DropR.succ)) (.succ (.succ (.succ (.succ (.zero _)))))) rfl ?_
                                    refine TL.run1 (pure_move rfl) rfl ?_
                                    first | refine TL.run1 (pure_call (scaled_spec f 80 hf (by omega) (by omega)) (.cons rfl (.cons rfl .nil)) Tryd.call49) rfl ?_ | refine TL.run1 (pure_call (scaled_spec f 60 hf (by omega) (by omega)) (.cons rfl (.cons rfl .nil)) Tryd.call49) rfl ?_
                                    refine TL.run1 (pure_neg rfl (mkI64 (by omega) (by omega))) rfl ?_
                                    refine TL.run1 (pure_assign rfl) rfl ?_
                                    refine TL.nil' ?_
                                    refine TC.ret ?_
                                    exact ret_int rfl (by unfold krP; rw [hk, if_neg hc44])
                                · try dsimp only at hc20
                                  exact absurd (by assumption) hc20
                              · try dsimp only at hc20
                                refine TC.seq ?_
                                refine TC.region ?_
                                refine TL.run1 (pure_eql_string rfl rfl) rfl ?_
                                refine TL.run1 (pure_assign rfl) rfl ?_
                                refine TL.nil' ?_
                                first | refine TC.condD rfl (fun hc20 => ?_) (fun hc20 => ?_) | refine TC.condN rfl (fun hc20 => ?_) (fun hc20 => ?_) | refine TC.cond rfl (fun hc20 => ?_) (fun hc20 => ?_)
                                · try dsimp only at hc20
                                  refine TC.skip' ?_
                                  first | refine TC.condD rfl (fun hc20 => ?_) (fun hc20 => ?_) | refine TC.condN rfl (fun hc20 => ?_) (fun hc20 => ?_) | refine TC.cond rfl (fun hc20 => ?_) (fun hc20 => ?_)
                                  · try dsimp only at hc20
                                    refine TC.region ?_
                                    refine TL.run1 (pure_assign rfl) rfl ?_
                                    refine TL.nil ?_
                                    refine block_normal ?_
                                    refine then_normal ?_
                                    refine TC.seq ?_
                                    have hk : kK (a ++ b) = 60 := by rw [hc20]; decide +kernel
                                    refine TC.regionCut [38, 39, 40, 41, 42, 43, 44] 44 ((60 : Int) = 0 ∨ ¬ f.face % 2 = 0) ?_ ?_
                                    · skip
                                      refine TL.run1 (pure_move rfl) rfl ?_
                                      refine TL.run1 (pure_eql rfl rfl) rfl ?_
                                      refine TL.run1 (pure_move rfl) rfl ?_
                                      first | refine TL.splitP 40 rfl (fun hg40 => ?_) (fun hg40 => ?_) | refine TL.split 40 rfl (fun hg40 => ?_) (fun hg40 => ?_)
                                      · try dsimp only at hg40
                                        refine TL.passG rfl rfl rfl rfl ?_
                                        refine TL.passG rfl rfl rfl rfl ?_
                                        refine TL.passG rfl rfl rfl rfl ?_
                                        refine TL.run1 (pure_pick_true rfl rfl) rfl ?_
                                        refine TL.cutEnd (by repeat (first | exact Same.refl _ _ | refine Same.put rfl ?_)) rfl ?_
                                        first | (simp; done) | (simp_all; done) | grind
                                      · try dsimp only at hg40
                                        first | refine TL.runG rfl rfl (pure_load Ty.agg23 rfl (.succ (.succ (.succ (.succ (.zero _)))))) rfl ?_ | refine TL.runG rfl rfl (pure_load_own Ty.agg23 rfl (by repeat (first | exact List.Mem.head _ | apply List.Mem.tail)) (by repeat (first | exact DropR.zero _ | apply DropR.succ)) (.succ (.succ (.succ (.succ (.zero _)))))) rfl ?_
                                        refine TL.runG rfl rfl (pure_call (prop_spec f hf) (.cons rfl .nil) Tryd.call48) rfl ?_
                                        refine TL.runG rfl rfl (pure_not rfl) rfl ?_
                                        refine TL.run1 (pure_pick_false rfl rfl) rfl ?_
                                        refine TL.cutEnd (by repeat (first | exact Same.refl _ _ | refine Same.put rfl ?_)) rfl ?_
                                        first | (simp; done) | (simp_all; done) | grind
                                    first | refine TC.condD rfl (fun hc44 => ?_) (fun hc44 => ?_) | refine TC.condN rfl (fun hc44 => ?_) (fun hc44 => ?_) | refine TC.cond rfl (fun hc44 => ?_) (fun hc44 => ?_)
                                    · try dsimp only at hc44
                                      refine TC.seq ?_
                                      refine TC.region ?_
                                      refine TL.run1 (pure_assign rfl) rfl ?_
                                      refine TL.nil' ?_
                                      refine TC.ret ?_
                                      refine then_ret ?_
                                      exact ret_int rfl (by unfold krP; rw [hk, if_pos hc44])
                                    · try dsimp only at hc44
                                      refine TC.skip' ?_
                                      refine TC.seq ?_
                                      refine TC.region ?_
                                      first | refine TL.run1 (pure_load Ty.agg23 rfl (.succ (.succ (.succ (.succ (.zero _)))))) rfl ?_ | refine TL.run1 (pure_load_own Ty.agg23 rfl (by repeat (first | exact List.Mem.head _ | apply List.Mem.tail)) (by repeat (first | exact DropR.zero _ | apply DropR.succ)) (.succ (.succ (.succ (.succ (.zero _)))))) rfl ?_
                                      refine TL.run1 (pure_move rfl) rfl ?_
                                      first | refine TL.run1 (pure_call (scaled_spec f 80 hf (by omega) (by omega)) (.cons rfl (.cons rfl .nil)) Tryd.call49) rfl ?_ | refine TL.run1 (pure_call (scaled_spec f 60 hf (by omega) (by omega)) (.cons rfl (.cons rfl .nil)) Tryd.call49) rfl ?_
                                      refine TL.run1 (pure_neg rfl (mkI64 (by omega) (by omega))) rfl ?_
                                      refine TL.run1 (pure_assign rfl) rfl ?_
                                      refine TL.nil' ?_
                                      refine TC.ret ?_
                                      exact ret_int rfl (by unfold krP; rw [hk, if_neg hc44])
                                  · try dsimp only at hc20
                                    exact absurd (by assumption) hc20
                                · try dsimp only at hc20
                                  refine TC.seq ?_
                                  refine TC.region ?_
                                  refine TL.run1 (pure_eql_string rfl rfl) rfl ?_
                                  refine TL.run1 (pure_assign rfl) rfl ?_
                                  refine TL.nil' ?_
                                  first | refine TC.condD rfl (fun hc20 => ?_) (fun hc20 => ?_) | refine TC.condN rfl (fun hc20 => ?_) (fun hc20 => ?_) | refine TC.cond rfl (fun hc20 => ?_) (fun hc20 => ?_)
                                  · try dsimp only at hc20
                                    refine TC.skip' ?_
                                    first | refine TC.condD rfl (fun hc20 => ?_) (fun hc20 => ?_) | refine TC.condN rfl (fun hc20 => ?_) (fun hc20 => ?_) | refine TC.cond rfl (fun hc20 => ?_) (fun hc20 => ?_)
                                    · try dsimp only at hc20
                                      refine TC.region ?_
                                      refine TL.run1 (pure_assign rfl) rfl ?_
                                      refine TL.nil ?_
                                      refine block_normal ?_
                                      refine then_normal ?_
                                      refine TC.seq ?_
                                      have hk : kK (a ++ b) = 60 := by rw [hc20]; decide +kernel
                                      refine TC.regionCut [38, 39, 40, 41, 42, 43, 44] 44 ((60 : Int) = 0 ∨ ¬ f.face % 2 = 0) ?_ ?_
                                      · skip
                                        refine TL.run1 (pure_move rfl) rfl ?_
                                        refine TL.run1 (pure_eql rfl rfl) rfl ?_
                                        refine TL.run1 (pure_move rfl) rfl ?_
                                        first | refine TL.splitP 40 rfl (fun hg40 => ?_) (fun hg40 => ?_) | refine TL.split 40 rfl (fun hg40 => ?_) (fun hg40 => ?_)
                                        · try dsimp only at hg40
                                          refine TL.passG rfl rfl rfl rfl ?_
                                          refine TL.passG rfl rfl rfl rfl ?_
                                          refine TL.passG rfl rfl rfl rfl ?_
                                          refine TL.run1 (pure_pick_true rfl rfl) rfl ?_
                                          refine TL.cutEnd (by repeat (first | exact Same.refl _ _ | refine Same.put rfl ?_)) rfl ?_
                                          first | (simp; done) | (simp_all; done) | grind
                                        · try dsimp only at hg40
                                          first | refine TL.runG rfl rfl (pure_load Ty.agg23 rfl (.succ (.succ (.succ (.succ (.zero _)))))) rfl ?_ | refine TL.runG rfl rfl (pure_load_own Ty.agg23 rfl (by repeat (first | exact List.Mem.head _ | apply List.Mem.tail)) (by repeat (first | exact DropR.zero _ | apply DropR.succ)) (.succ (.succ (.succ (.succ (.zero _)))))) rfl ?_
                                          refine TL.runG rfl rfl (pure_call (prop_spec f hf) (.cons rfl .nil) Tryd.call48) rfl ?_
                                          refine TL.runG rfl rfl (pure_not rfl) rfl ?_
                                          refine TL.run1 (pure_pick_false rfl rfl) rfl ?_
                                          refine TL.cutEnd (by repeat (first | exact Same.refl _ _ | refine Same.put rfl ?_)) rfl ?_
                                          first | (simp; done) | (simp_all; done) | grind
                                      first | refine TC.condD rfl (fun hc44 => ?_) (fun hc44 => ?_) | refine TC.condN rfl (fun hc44 => ?_) (fun hc44 => ?_) | refine TC.cond rfl (fun hc44 => ?_) (fun hc44 => ?_)
                                      · try dsimp only at hc44
                                        refine TC.seq ?_
                                        refine TC.region ?_
                                        refine TL.run1 (pure_assign rfl) rfl ?_
                                        refine TL.nil' ?_
                                        refine TC.ret ?_
                                        refine then_ret ?_
                                        exact ret_int rfl (by unfold krP; rw [hk, if_pos hc44])
                                      · try dsimp only at hc44
                                        refine TC.skip' ?_
                                        refine TC.seq ?_
                                        refine TC.region ?_
                                        first | refine TL.run1 (pure_load Ty.agg23 rfl (.succ (.succ (.succ (.succ (.zero _)))))) rfl ?_ | refine TL.run1 (pure_load_own Ty.agg23 rfl (by repeat (first | exact List.Mem.head _ | apply List.Mem.tail)) (by repeat (first | exact DropR.zero _ | apply DropR.succ)) (.succ (.succ (.succ (.succ (.zero _)))))) rfl ?_
                                        refine TL.run1 (pure_move rfl) rfl ?_
                                        first | refine TL.run1 (pure_call (scaled_spec f 80 hf (by omega) (by omega)) (.cons rfl (.cons rfl .nil)) Tryd.call49) rfl ?_ | refine TL.run1 (pure_call (scaled_spec f 60 hf (by omega) (by omega)) (.cons rfl (.cons rfl .nil)) Tryd.call49) rfl ?_
                                        refine TL.run1 (pure_neg rfl (mkI64 (by omega) (by omega))) rfl ?_
                                        refine TL.run1 (pure_assign rfl) rfl ?_
                                        refine TL.nil' ?_
                                        refine TC.ret ?_
                                        exact ret_int rfl (by unfold krP; rw [hk, if_neg hc44])
                                    · try dsimp only at hc20
                                      exact absurd (by assumption) hc20
                                  · try dsimp only at hc20
                                    refine TC.seq ?_
                                    refine TC.region ?_
                                    refine TL.run1 (pure_eql_string rfl rfl) rfl ?_
                                    refine TL.run1 (pure_assign rfl) rfl ?_
                                    refine TL.nil' ?_
                                    first | refine TC.condD rfl (fun hc20 => ?_) (fun hc20 => ?_) | refine TC.condN rfl (fun hc20 => ?_) (fun hc20 => ?_) | refine TC.cond rfl (fun hc20 => ?_) (fun hc20 => ?_)
                                    · try dsimp only at hc20
                                      refine TC.skip' ?_
                                      first | refine TC.condD rfl (fun hc20 => ?_) (fun hc20 => ?_) | refine TC.condN rfl (fun hc20 => ?_) (fun hc20 => ?_) | refine TC.cond rfl (fun hc20 => ?_) (fun hc20 => ?_)
                                      · try dsimp only at hc20
                                        refine TC.region ?_
                                        refine TL.run1 (pure_assign rfl) rfl ?_
                                        refine TL.nil ?_
                                        refine block_normal ?_
                                        refine then_normal ?_
                                        refine TC.seq ?_
                                        have hk : kK (a ++ b) = 60 := by rw [hc20]; decide +kernel
                                        refine TC.regionCut [38, 39, 40, 41, 42, 43, 44] 44 ((60 : Int) = 0 ∨ ¬ f.face % 2 = 0) ?_ ?_
                                        · skip
                                          refine TL.run1 (pure_move rfl) rfl ?_
                                          refine TL.run1 (pure_eql rfl rfl) rfl ?_
                                          refine TL.run1 (pure_move rfl) rfl ?_
                                          first | refine TL.splitP 40 rfl (fun hg40 => ?_) (fun hg40 => ?_) | refine TL.split 40 rfl (fun hg40 => ?_) (fun hg40 => ?_)
                                          · try dsimp only at hg40
                                            refine TL.passG rfl rfl rfl rfl ?_
                                            refine TL.passG rfl rfl rfl rfl ?_
                                            refine TL.passG rfl rfl rfl rfl ?_
                                            refine TL.run1 (pure_pick_true rfl rfl) rfl ?_
                                            refine TL.cutEnd (by repeat (first | exact Same.refl _ _ | refine Same.put rfl ?_)) rfl ?_
                                            first | (simp; done) | (simp_all; done) | grind
                                          · try dsimp only at hg40
                                            first | refine TL.runG rfl rfl (pure_load Ty.agg23 rfl (.succ (.succ (.succ (.succ (.zero _)))))) rfl ?_ | refine TL.runG rfl rfl (pure_load_own Ty.agg23 rfl (by repeat (first | exact List.Mem.head _ | apply List.Mem.tail)) (by repeat (first | exact DropR.zero _ | apply DropR.succ)) (.succ (.succ (.succ (.succ (.zero _)))))) rfl ?_
                                            refine TL.runG rfl rfl (pure_call (prop_spec f hf) (.cons rfl .nil) Tryd.call48) rfl ?_
                                            refine TL.runG rfl rfl (pure_not rfl) rfl ?_
                                            refine TL.run1 (pure_pick_false rfl rfl) rfl ?_
                                            refine TL.cutEnd (by repeat (first | exact Same.refl _ _ | refine Same.put rfl ?_)) rfl ?_
                                            first | (simp; done) | (simp_all; done) | grind
                                        first | refine TC.condD rfl (fun hc44 => ?_) (fun hc44 => ?_) | refine TC.condN rfl (fun hc44 => ?_) (fun hc44 => ?_) | refine TC.cond rfl (fun hc44 => ?_) (fun hc44 => ?_)
                                        · try dsimp only at hc44
                                          refine TC.seq ?_
                                          refine TC.region ?_
                                          refine TL.run1 (pure_assign rfl) rfl ?_
                                          refine TL.nil' ?_
                                          refine TC.ret ?_
                                          refine then_ret ?_
                                          exact ret_int rfl (by unfold krP; rw [hk, if_pos hc44])
                                        · try dsimp only at hc44
                                          refine TC.skip' ?_
                                          refine TC.seq ?_
                                          refine TC.region ?_
                                          first | refine TL.run1 (pure_load Ty.agg23 rfl (.succ (.succ (.succ (.succ (.zero _)))))) rfl ?_ | refine TL.run1 (pure_load_own Ty.agg23 rfl (by repeat (first | exact List.Mem.head _ | apply List.Mem.tail)) (by repeat (first | exact DropR.zero _ | apply DropR.succ)) (.succ (.succ (.succ (.succ (.zero _)))))) rfl ?_
                                          refine TL.run1 (pure_move rfl) rfl ?_
                                          first | refine TL.run1 (pure_call (scaled_spec f 80 hf (by omega) (by omega)) (.cons rfl (.cons rfl .nil)) Tryd.call49) rfl ?_ | refine TL.run1 (pure_call (scaled_spec f 60 hf (by omega) (by omega)) (.cons rfl (.cons rfl .nil)) Tryd.call49) rfl ?_
                                          refine TL.run1 (pure_neg rfl (mkI64 (by omega) (by omega))) rfl ?_
                                          refine TL.run1 (pure_assign rfl) rfl ?_
                                          refine TL.nil' ?_
                                          refine TC.ret ?_
                                          exact ret_int rfl (by unfold krP; rw [hk, if_neg hc44])
                                      · try dsimp only at hc20
                                        exact absurd (by assumption) hc20
                                    · try dsimp only at hc20
                                      refine TC.seq ?_
                                      refine TC.region ?_
                                      refine TL.run1 (pure_eql_string rfl rfl) rfl ?_
                                      refine TL.run1 (pure_assign rfl) rfl ?_
                                      refine TL.nil' ?_
                                      first | refine TC.condD rfl (fun hc20 => ?_) (fun hc20 => ?_) | refine TC.condN rfl (fun hc20 => ?_) (fun hc20 => ?_) | refine TC.cond rfl (fun hc20 => ?_) (fun hc20 => ?_)
                                      · try dsimp only at hc20
                                        refine TC.skip' ?_
                                        first | refine TC.condD rfl (fun hc20 => ?_) (fun hc20 => ?_) | refine TC.condN rfl (fun hc20 => ?_) (fun hc20 => ?_) | refine TC.cond rfl (fun hc20 => ?_) (fun hc20 => ?_)
                                        · try dsimp only at hc20
                                          refine TC.region ?_
                                          refine TL.run1 (pure_assign rfl) rfl ?_
                                          refine TL.nil ?_
                                          refine block_normal ?_
                                          refine then_normal ?_
                                          refine TC.seq ?_
                                          have hk : kK (a ++ b) = 60 := by rw [hc20]; decide +kernel
                                          refine TC.regionCut [38, 39, 40, 41, 42, 43, 44] 44 ((60 : Int) = 0 ∨ ¬ f.face % 2 = 0) ?_ ?_
                                          · skip
                                            refine TL.run1 (pure_move rfl) rfl ?_
                                            refine TL.run1 (pure_eql rfl rfl) rfl ?_
                                            refine TL.run1 (pure_move rfl) rfl ?_
                                            first | refine TL.splitP 40 rfl (fun hg40 => ?_) (fun hg40 => ?_) | refine TL.split 40 rfl (fun hg40 => ?_) (fun hg40 => ?_)
                                            · try dsimp only at hg40
                                              refine TL.passG rfl rfl rfl rfl ?_
                                              refine TL.passG rfl rfl rfl rfl ?_
                                              refine TL.passG rfl rfl rfl rfl ?_
                                              refine TL.run1 (pure_pick_true rfl rfl) rfl ?_
                                              refine TL.cutEnd (by repeat (first | exact Same.refl _ _ | refine Same.put rfl ?_)) rfl ?_
                                              first | (simp; done) | (simp_all; done) | grind
                                            · try dsimp only at hg40
                                              first | refine TL.runG rfl rfl (pure_load Ty.agg23 rfl (.succ (.succ (.succ (.succ (.zero _)))))) rfl ?_ | refine TL.runG rfl rfl (pure_load_own Ty.agg23 rfl (by repeat (first | exact List.Mem.head _ | apply List.Mem.tail)) (by repeat (first | exact DropR.zero _ | apply DropR.succ)) (.succ (.succ (.succ (.succ (.zero _)))))) rfl ?_
                                              refine TL.runG rfl rfl (pure_call (prop_spec f hf) (.cons rfl .nil) Tryd.call48) rfl ?_
                                              refine TL.runG rfl rfl (pure_not rfl) rfl ?_
                                              refine TL.run1 (pure_pick_false rfl rfl) rfl ?_
                                              refine TL.cutEnd (by repeat (first | exact Same.refl _ _ | refine Same.put rfl ?_)) rfl ?_
                                              first | (simp; done) | (simp_all; done) | grind
                                          first | refine TC.condD rfl (fun hc44 => ?_) (fun hc44 => ?_) | refine TC.condN rfl (fun hc44 => ?_) (fun hc44 => ?_) | refine TC.cond rfl (fun hc44 => ?_) (fun hc44 => ?_)
                                          · try dsimp only at hc44
                                            refine TC.seq ?_
                                            refine TC.region ?_
                                            refine TL.run1 (pure_assign rfl) rfl ?_
                                            refine TL.nil' ?_
                                            refine TC.ret ?_
                                            refine then_ret ?_
                                            exact ret_int rfl (by unfold krP; rw [hk, if_pos hc44])
                                          · try dsimp only at hc44
                                            refine TC.skip' ?_
                                            refine TC.seq ?_
                                            refine TC.region ?_
                                            first | refine TL.run1 (pure_load Ty.agg23 rfl (.succ (.succ (.succ (.succ (.zero _)))))) rfl ?_ | refine TL.run1 (pure_load_own Ty.agg23 rfl (by repeat (first | exact List.Mem.head _ | apply List.Mem.tail)) (by repeat (first | exact DropR.zero _ | apply DropR.succ)) (.succ (.succ (.succ (.succ (.zero _)))))) rfl ?_
                                            refine TL.run1 (pure_move rfl) rfl ?_
                                            first | refine TL.run1 (pure_call (scaled_spec f 80 hf (by omega) (by omega)) (.cons rfl (.cons rfl .nil)) Tryd.call49) rfl ?_ | refine TL.run1 (pure_call (scaled_spec f 60 hf (by omega) (by omega)) (.cons rfl (.cons rfl .nil)) Tryd.call49) rfl ?_
                                            refine TL.run1 (pure_neg rfl (mkI64 (by omega) (by omega))) rfl ?_
                                            refine TL.run1 (pure_assign rfl) rfl ?_
                                            refine TL.nil' ?_
                                            refine TC.ret ?_
                                            exact ret_int rfl (by unfold krP; rw [hk, if_neg hc44])
                                        · try dsimp only at hc20
                                          exact absurd (by assumption) hc20
                                      · try dsimp only at hc20
                                        refine TC.seq ?_
                                        refine TC.region ?_
                                        refine TL.run1 (pure_eql_string rfl rfl) rfl ?_
                                        refine TL.run1 (pure_assign rfl) rfl ?_
                                        refine TL.nil' ?_
                                        first | refine TC.condD rfl (fun hc20 => ?_) (fun hc20 => ?_) | refine TC.condN rfl (fun hc20 => ?_) (fun hc20 => ?_) | refine TC.cond rfl (fun hc20 => ?_) (fun hc20 => ?_)
                                        · try dsimp only at hc20
                                          refine TC.skip' ?_
                                          first | refine TC.condD rfl (fun hc20 => ?_) (fun hc20 => ?_) | refine TC.condN rfl (fun hc20 => ?_) (fun hc20 => ?_) | refine TC.cond rfl (fun hc20 => ?_) (fun hc20 => ?_)
                                          · try dsimp only at hc20
                                            refine TC.region ?_
                                            refine TL.run1 (pure_assign rfl) rfl ?_
                                            refine TL.nil ?_
                                            refine block_normal ?_
                                            refine then_normal ?_
                                            refine TC.seq ?_
                                            have hk : kK (a ++ b) = 60 := by rw [hc20]; decide +kernel
                                            refine TC.regionCut [38, 39, 40, 41, 42, 43, 44] 44 ((60 : Int) = 0 ∨ ¬ f.face % 2 = 0) ?_ ?_
                                            · skip
                                              refine TL.run1 (pure_move rfl) rfl ?_
                                              refine TL.run1 (pure_eql rfl rfl) rfl ?_
                                              refine TL.run1 (pure_move rfl) rfl ?_
                                              first | refine TL.splitP 40 rfl (fun hg40 => ?_) (fun hg40 => ?_) | refine TL.split 40 rfl (fun hg40 => ?_) (fun hg40 => ?_)
                                              · try dsimp only at hg40
                                                refine TL.passG rfl rfl rfl rfl ?_
                                                refine TL.passG rfl rfl rfl rfl ?_
                                                refine TL.passG rfl rfl rfl rfl ?_
                                                refine TL.run1 (pure_pick_true rfl rfl) rfl ?_
                                                refine TL.cutEnd (by repeat (first | exact Same.refl _ _ | refine Same.put rfl ?_)) rfl ?_
                                                first | (simp; done) | (simp_all; done) | grind
                                              · try dsimp only at hg40
                                                first | refine TL.runG rfl rfl (pure_load Ty.agg23 rfl (.succ (.succ (.succ (.succ (.zero _)))))) rfl ?_ | refine TL.runG rfl rfl (pure_load_own Ty.agg23 rfl (by repeat (first | exact List.Mem.head _ | apply List.Mem.tail)) (by repeat (first | exact DropR.zero _ | apply DropR.succ)) (.succ (.succ (.succ (.succ (.zero _)))))) rfl ?_
                                                refine TL.runG rfl rfl (pure_call (prop_spec f hf) (.cons rfl .nil) Tryd.call48) rfl ?_
                                                refine TL.runG rfl rfl (pure_not rfl) rfl ?_
                                                refine TL.run1 (pure_pick_false rfl rfl) rfl ?_
                                                refine TL.cutEnd (by repeat (first | exact Same.refl _ _ | refine Same.put rfl ?_)) rfl ?_
                                                first | (simp; done) | (simp_all; done) | grind
                                            first | refine TC.condD rfl (fun hc44 => ?_) (fun hc44 => ?_) | refine TC.condN rfl (fun hc44 => ?_) (fun hc44 => ?_) | refine TC.cond rfl (fun hc44 => ?_) (fun hc44 => ?_)
                                            · try dsimp only at hc44
                                              refine TC.seq ?_
                                              refine TC.region ?_
                                              refine TL.run1 (pure_assign rfl) rfl ?_
                                              refine TL.nil' ?_
                                              refine TC.ret ?_
                                              refine then_ret ?_
                                              exact ret_int rfl (by unfold krP; rw [hk, if_pos hc44])
                                            · try dsimp only at hc44
                                              refine TC.skip' ?_
                                              refine TC.seq ?_
                                              refine TC.region ?_
                                              first | refine TL.run1 (pure_load Ty.agg23 rfl (.succ (.succ (.succ (.succ (.zero _)))))) rfl ?_ | refine TL.run1 (pure_load_own Ty.agg23 rfl (by repeat (first | exact List.Mem.head _ | apply List.Mem.tail)) (by repeat (first | exact DropR.zero _ | apply DropR.succ)) (.succ (.succ (.succ (.succ (.zero _)))))) rfl ?_
                                              refine TL.run1 (pure_move rfl) rfl ?_
                                              first | refine TL.run1 (pure_call (scaled_spec f 80 hf (by omega) (by omega)) (.cons rfl (.cons rfl .nil)) Tryd.call49) rfl ?_ | refine TL.run1 (pure_call (scaled_spec f 60 hf (by omega) (by omega)) (.cons rfl (.cons rfl .nil)) Tryd.call49) rfl ?_
                                              refine TL.run1 (pure_neg rfl (mkI64 (by omega) (by omega))) rfl ?_
                                              refine TL.run1 (pure_assign rfl) rfl ?_
                                              refine TL.nil' ?_
                                              refine TC.ret ?_
                                              exact ret_int rfl (by unfold krP; rw [hk, if_neg hc44])
                                          · try dsimp only at hc20
                                            exact absurd (by assumption) hc20
                                        · try dsimp only at hc20
                                          refine TC.seq ?_
                                          refine TC.region ?_
                                          refine TL.run1 (pure_eql_string rfl rfl) rfl ?_
                                          refine TL.run1 (pure_assign rfl) rfl ?_
                                          refine TL.nil' ?_
                                          first | refine TC.condD rfl (fun hc20 => ?_) (fun hc20 => ?_) | refine TC.condN rfl (fun hc20 => ?_) (fun hc20 => ?_) | refine TC.cond rfl (fun hc20 => ?_) (fun hc20 => ?_)
                                          · try dsimp only at hc20
                                            refine TC.skip' ?_
                                            first | refine TC.condD rfl (fun hc20 => ?_) (fun hc20 => ?_) | refine TC.condN rfl (fun hc20 => ?_) (fun hc20 => ?_) | refine TC.cond rfl (fun hc20 => ?_) (fun hc20 => ?_)
                                            · try dsimp only at hc20
                                              refine TC.region ?_
                                              refine TL.run1 (pure_assign rfl) rfl ?_
                                              refine TL.nil ?_
                                              refine block_normal ?_
                                              refine then_normal ?_
                                              refine TC.seq ?_
                                              have hk : kK (a ++ b) = 60 := by rw [hc20]; decide +kernel
                                              refine TC.regionCut [38, 39, 40, 41, 42, 43, 44] 44 ((60 : Int) = 0 ∨ ¬ f.face % 2 = 0) ?_ ?_
                                              · skip
                                                refine TL.run1 (pure_move rfl) rfl ?_
                                                refine TL.run1 (pure_eql rfl rfl) rfl ?_
                                                refine TL.run1 (pure_move rfl) rfl ?_
                                                first | refine TL.splitP 40 rfl (fun hg40 => ?_) (fun hg40 => ?_) | refine TL.split 40 rfl (fun hg40 => ?_) (fun hg40 => ?_)
                                                · try dsimp only at hg40
                                                  refine TL.passG rfl rfl rfl rfl ?_
                                                  refine TL.passG rfl rfl rfl rfl ?_
                                                  refine TL.passG rfl rfl rfl rfl ?_
                                                  refine TL.run1 (pure_pick_true rfl rfl) rfl ?_
                                                  refine TL.cutEnd (by repeat (first | exact Same.refl _ _ | refine Same.put rfl ?_)) rfl ?_
                                                  first | (simp; done) | (simp_all; done) | grind
                                                · try dsimp only at hg40
                                                  first | refine TL.runG rfl rfl (pure_load Ty.agg23 rfl (.succ (.succ (.succ (.succ (.zero _)))))) rfl ?_ | refine TL.runG rfl rfl (pure_load_own Ty.agg23 rfl (by repeat (first | exact List.Mem.head _ | apply List.Mem.tail)) (by repeat (first | exact DropR.zero _ | apply DropR.succ)) (.succ (.succ (.succ (.succ (.zero _)))))) rfl ?_
                                                  refine TL.runG rfl rfl (pure_call (prop_spec f hf) (.cons rfl .nil) Tryd.call48) rfl ?_
                                                  refine TL.runG rfl rfl (pure_not rfl) rfl ?_
                                                  refine TL.run1 (pure_pick_false rfl rfl) rfl ?_
                                                  refine TL.cutEnd (by repeat (first | exact Same.refl _ _ | refine Same.put rfl ?_)) rfl ?_
                                                  first | (simp; done) | (simp_all; done) | grind
                                              first | refine TC.condD rfl (fun hc44 => ?_) (fun hc44 => ?_) | refine TC.condN rfl (fun hc44 => ?_) (fun hc44 => ?_) | refine TC.cond rfl (fun hc44 => ?_) (fun hc44 => ?_)
                                              · try dsimp only at hc44
                                                refine TC.seq ?_
                                                refine TC.region ?_
                                                refine TL.run1 (pure_assign rfl) rfl ?_
                                                refine TL.nil' ?_
                                                refine TC.ret ?_
                                                refine then_ret ?_
                                                exact ret_int rfl (by unfold krP; rw [hk, if_pos hc44])
                                              · try dsimp only at hc44
                                                refine TC.skip' ?_
                                                refine TC.seq ?_
                                                refine TC.region ?_
                                                first | refine TL.run1 (pure_load Ty.agg23 rfl (.succ (.succ (.succ (.succ (.zero _)))))) rfl ?_ | refine TL.run1 (pure_load_own Ty.agg23 rfl (by repeat (first | exact List.Mem.head _ | apply List.Mem.tail)) (by repeat (first | exact DropR.zero _ | apply DropR.succ)) (.succ (.succ (.succ (.succ (.zero _)))))) rfl ?_
                                                refine TL.run1 (pure_move rfl) rfl ?_
                                                first | refine TL.run1 (pure_call (scaled_spec f 80 hf (by omega) (by omega)) (.cons rfl (.cons rfl .nil)) Tryd.call49) rfl ?_ | refine TL.run1 (pure_call (scaled_spec f 60 hf (by omega) (by omega)) (.cons rfl (.cons rfl .nil)) Tryd.call49) rfl ?_
                                                refine TL.run1 (pure_neg rfl (mkI64 (by omega) (by omega))) rfl ?_
                                                refine TL.run1 (pure_assign rfl) rfl ?_
                                                refine TL.nil' ?_
                                                refine TC.ret ?_
                                                exact ret_int rfl (by unfold krP; rw [hk, if_neg hc44])
                                            · try dsimp only at hc20
                                              exact absurd (by assumption) hc20
                                          · try dsimp only at hc20
                                            refine TC.seq ?_
                                            refine TC.region ?_
                                            refine TL.run1 (pure_eql_string rfl rfl) rfl ?_
                                            refine TL.run1 (pure_assign rfl) rfl ?_
                                            refine TL.nil' ?_
                                            first | refine TC.condD rfl (fun hc20 => ?_) (fun hc20 => ?_) | refine TC.condN rfl (fun hc20 => ?_) (fun hc20 => ?_) | refine TC.cond rfl (fun hc20 => ?_) (fun hc20 => ?_)
                                            · try dsimp only at hc20
                                              refine TC.skip' ?_
                                              first | refine TC.condD rfl (fun hc20 => ?_) (fun hc20 => ?_) | refine TC.condN rfl (fun hc20 => ?_) (fun hc20 => ?_) | refine TC.cond rfl (fun hc20 => ?_) (fun hc20 => ?_)
                                              · try dsimp only at hc20
                                                refine TC.region ?_
                                                refine TL.run1 (pure_assign rfl) rfl ?_
                                                refine TL.nil ?_
                                                refine block_normal ?_
                                                refine then_normal ?_
                                                refine TC.seq ?_
                                                have hk : kK (a ++ b) = 60 := by rw [hc20]; decide +kernel
                                                refine TC.regionCut [38, 39, 40, 41, 42, 43, 44] 44 ((60 : Int) = 0 ∨ ¬ f.face % 2 = 0) ?_ ?_
                                                · skip
                                                  refine TL.run1 (pure_move rfl) rfl ?_
                                                  refine TL.run1 (pure_eql rfl rfl) rfl ?_
                                                  refine TL.run1 (pure_move rfl) rfl ?_
                                                  first | refine TL.splitP 40 rfl (fun hg40 => ?_) (fun hg40 => ?_) | refine TL.split 40 rfl (fun hg40 => ?_) (fun hg40 => ?_)
                                                  · try dsimp only at hg40
                                                    refine TL.passG rfl rfl rfl rfl ?_
                                                    refine TL.passG rfl rfl rfl rfl ?_
                                                    refine TL.passG rfl rfl rfl rfl ?_
                                                    refine TL.run1 (pure_pick_true rfl rfl) rfl ?_
                                                    refine TL.cutEnd (by repeat (first | exact Same.refl _ _ | refine Same.put rfl ?_)) rfl ?_
                                                    first | (simp; done) | (simp_all; done) | grind
                                                  · try dsimp only at hg40
                                                    first | refine TL.runG rfl rfl (pure_load Ty.agg23 rfl (.succ (.succ (.succ (.succ (.zero _)))))) rfl ?_ | refine TL.runG rfl rfl (pure_load_own Ty.agg23 rfl (by repeat (first | exact List.Mem.head _ | apply List.Mem.tail)) (by repeat (first | exact DropR.zero _ | apply DropR.succ)) (.succ (.succ (.succ (.succ (.zero _)))))) rfl ?_
                                                    refine TL.runG rfl rfl (pure_call (prop_spec f hf) (.cons rfl .nil) Tryd.call48) rfl ?_
                                                    refine TL.runG rfl rfl (pure_not rfl) rfl ?_
                                                    refine TL.run1 (pure_pick_false rfl rfl) rfl ?_
                                                    refine TL.cutEnd (by repeat (first | exact Same.refl _ _ | refine Same.put rfl ?_)) rfl ?_
                                                    first | (simp; done) | (simp_all; done) | grind
                                                first | refine TC.condD rfl (fun hc44 => ?_) (fun hc44 => ?_) | refine TC.condN rfl (fun hc44 => ?_) (fun hc44 => ?_) | refine TC.cond rfl (fun hc44 => ?_) (fun hc44 => ?_)
                                                · try dsimp only at hc44
                                                  refine TC.seq ?_
                                                  refine TC.region ?_
                                                  refine TL.run1 (pure_assign rfl) rfl ?_
                                                  refine TL.nil' ?_
                                                  refine TC.ret ?_
                                                  refine then_ret ?_
                                                  exact ret_int rfl (by unfold krP; rw [hk, if_pos hc44])
                                                · try dsimp only at hc44
                                                  refine TC.skip' ?_
                                                  refine TC.seq ?_
                                                  refine TC.region ?_
                                                  first | refine TL.run1 (pure_load Ty.agg23 rfl (.succ (.succ (.succ (.succ (.zero _)))))) rfl ?_ | refine TL.run1 (pure_load_own Ty.agg23 rfl (by repeat (first | exact List.Mem.head _ | apply List.Mem.tail)) (by repeat (first | exact DropR.zero _ | apply DropR.succ)) (.succ (.succ (.succ (.succ (.zero _)))))) rfl ?_
                                                  refine TL.run1 (pure_move rfl) rfl ?_
                                                  first | refine TL.run1 (pure_call (scaled_spec f 80 hf (by omega) (by omega)) (.cons rfl (.cons rfl .nil)) Tryd.call49) rfl ?_ | refine TL.run1 (pure_call (scaled_spec f 60 hf (by omega) (by omega)) (.cons rfl (.cons rfl .nil)) Tryd.call49) rfl ?_
                                                  refine TL.run1 (pure_neg rfl (mkI64 (by omega) (by omega))) rfl ?_
                                                  refine TL.run1 (pure_assign rfl) rfl ?_
                                                  refine TL.nil' ?_
                                                  refine TC.ret ?_
                                                  exact ret_int rfl (by unfold krP; rw [hk, if_neg hc44])
                                              · try dsimp only at hc20
                                                exact absurd (by assumption) hc20
                                            · try dsimp only at hc20
                                              refine TC.seq ?_
                                              refine TC.region ?_
                                              refine TL.run1 (pure_eql_string rfl rfl) rfl ?_
                                              refine TL.run1 (pure_assign rfl) rfl ?_
                                              refine TL.nil' ?_
                                              first | refine TC.condD rfl (fun hc20 => ?_) (fun hc20 => ?_) | refine TC.condN rfl (fun hc20 => ?_) (fun hc20 => ?_) | refine TC.cond rfl (fun hc20 => ?_) (fun hc20 => ?_)
                                              · try dsimp only at hc20
                                                refine TC.skip' ?_
                                                first | refine TC.condD rfl (fun hc20 => ?_) (fun hc20 => ?_) | refine TC.condN rfl (fun hc20 => ?_) (fun hc20 => ?_) | refine TC.cond rfl (fun hc20 => ?_) (fun hc20 => ?_)
                                                · try dsimp only at hc20
                                                  refine TC.region ?_
                                                  refine TL.run1 (pure_assign rfl) rfl ?_
                                                  refine TL.nil ?_
                                                  refine block_normal ?_
                                                  refine then_normal ?_
                                                  refine TC.seq ?_
                                                  have hk : kK (a ++ b) = 60 := by rw [hc20]; decide +kernel
                                                  refine TC.regionCut [38, 39, 40, 41, 42, 43, 44] 44 ((60 : Int) = 0 ∨ ¬ f.face % 2 = 0) ?_ ?_
                                                  · skip
                                                    refine TL.run1 (pure_move rfl) rfl ?_
                                                    refine TL.run1 (pure_eql rfl rfl) rfl ?_
                                                    refine TL.run1 (pure_move rfl) rfl ?_
                                                    first | refine TL.splitP 40 rfl (fun hg40 => ?_) (fun hg40 => ?_) | refine TL.split 40 rfl (fun hg40 => ?_) (fun hg40 => ?_)
                                                    · try dsimp only at hg40
                                                      refine TL.passG rfl rfl rfl rfl ?_
                                                      refine TL.passG rfl rfl rfl rfl ?_
                                                      refine TL.passG rfl rfl rfl rfl ?_
                                                      refine TL.run1 (pure_pick_true rfl rfl) rfl ?_
                                                      refine TL.cutEnd (by repeat (first | exact Same.refl _ _ | refine Same.put rfl ?_)) rfl ?_
                                                      first | (simp; done) | (simp_all; done) | grind
                                                    · try dsimp only at hg40
                                                      first | refine TL.runG rfl rfl (pure_load Ty.agg23 rfl (.succ (.succ (.succ (.succ (.zero _)))))) rfl ?_ | refine TL.runG rfl rfl (pure_load_own Ty.agg23 rfl (by repeat (first | exact List.Mem.head _ | apply List.Mem.tail)) (by repeat (first | exact DropR.zero _ | apply DropR.succ)) (.succ (.succ (.succ (.succ (.zero _)))))) rfl ?_
                                                      refine TL.runG rfl rfl (pure_call (prop_spec f hf) (.cons rfl .nil) Tryd.call48) rfl ?_
                                                      refine TL.runG rfl rfl (pure_not rfl) rfl ?_
                                                      refine TL.run1 (pure_pick_false rfl rfl) rfl ?_
                                                      refine TL.cutEnd (by repeat (first | exact Same.refl _ _ | refine Same.put rfl ?_)) rfl ?_
                                                      first | (simp; done) | (simp_all; done) | grind
                                                  first | refine TC.condD rfl (fun hc44 => ?_) (fun hc44 => ?_) | refine TC.condN rfl (fun hc44 => ?_) (fun hc44 => ?_) | refine TC.cond rfl (fun hc44 => ?_) (fun hc44 => ?_)
                                                  · try dsimp only at hc44
                                                    refine TC.seq ?_
                                                    refine TC.region ?_
                                                    refine TL.run1 (pure_assign rfl) rfl ?_
                                                    refine TL.nil' ?_
                                                    refine TC.ret ?_
                                                    refine then_ret ?_
                                                    exact ret_int rfl (by unfold krP; rw [hk, if_pos hc44])
                                                  · try dsimp only at hc44
                                                    refine TC.skip' ?_
                                                    refine TC.seq ?_
                                                    refine TC.region ?_
                                                    first | refine TL.run1 (pure_load Ty.agg23 rfl (.succ (.succ (.succ (.succ (.zero _)))))) rfl ?_ | refine TL.run1 (pure_load_own Ty.agg23 rfl (by repeat (first | exact List.Mem.head _ | apply List.Mem.tail)) (by repeat (first | exact DropR.zero _ | apply DropR.succ)) (.succ (.succ (.succ (.succ (.zero _)))))) rfl ?_
                                                    refine TL.run1 (pure_move rfl) rfl ?_
                                                    first | refine TL.run1 (pure_call (scaled_spec f 80 hf (by omega) (by omega)) (.cons rfl (.cons rfl .nil)) Tryd.call49) rfl ?_ | refine TL.run1 (pure_call (scaled_spec f 60 hf (by omega) (by omega)) (.cons rfl (.cons rfl .nil)) Tryd.call49) rfl ?_
                                                    refine TL.run1 (pure_neg rfl (mkI64 (by omega) (by omega))) rfl ?_
                                                    refine TL.run1 (pure_assign rfl) rfl ?_
                                                    refine TL.nil' ?_
                                                    refine TC.ret ?_
                                                    exact ret_int rfl (by unfold krP; rw [hk, if_neg hc44])
                                                · try dsimp only at hc20
                                                  exact absurd (by assumption) hc20
                                              · try dsimp only at hc20
                                                refine TC.seq ?_
                                                refine TC.region ?_
                                                refine TL.run1 (pure_eql_string rfl rfl) rfl ?_
                                                refine TL.run1 (pure_assign rfl) rfl ?_
                                                refine TL.nil' ?_
                                                first | refine TC.condD rfl (fun hc20 => ?_) (fun hc20 => ?_) | refine TC.condN rfl (fun hc20 => ?_) (fun hc20 => ?_) | refine TC.cond rfl (fun hc20 => ?_) (fun hc20 => ?_)
                                                · try dsimp only at hc20
                                                  refine TC.skip' ?_
                                                  first | refine TC.condD rfl (fun hc20 => ?_) (fun hc20 => ?_) | refine TC.condN rfl (fun hc20 => ?_) (fun hc20 => ?_) | refine TC.cond rfl (fun hc20 => ?_) (fun hc20 => ?_)
                                                  · try dsimp only at hc20
                                                    refine TC.region ?_
                                                    refine TL.run1 (pure_assign rfl) rfl ?_
                                                    refine TL.nil ?_
                                                    refine block_normal ?_
                                                    refine then_normal ?_
                                                    refine TC.seq ?_
                                                    have hk : kK (a ++ b) = 60 := by rw [hc20]; decide +kernel
                                                    refine TC.regionCut [38, 39, 40, 41, 42, 43, 44] 44 ((60 : Int) = 0 ∨ ¬ f.face % 2 = 0) ?_ ?_
                                                    · skip
                                                      refine TL.run1 (pure_move rfl) rfl ?_
                                                      refine TL.run1 (pure_eql rfl rfl) rfl ?_
                                                      refine TL.run1 (pure_move rfl) rfl ?_
                                                      first | refine TL.splitP 40 rfl (fun hg40 => ?_) (fun hg40 => ?_) | refine TL.split 40 rfl (fun hg40 => ?_) (fun hg40 => ?_)
                                                      · try dsimp only at hg40
                                                        refine TL.passG rfl rfl rfl rfl ?_
                                                        refine TL.passG rfl rfl rfl rfl ?_
                                                        refine TL.passG rfl rfl rfl rfl ?_
                                                        refine TL.run1 (pure_pick_true rfl rfl) rfl ?_
                                                        refine TL.cutEnd (by repeat (first | exact Same.refl _ _ | refine Same.put rfl ?_)) rfl ?_
                                                        first | (simp; done) | (simp_all; done) | grind
                                                      · try dsimp only at hg40
                                                        first | refine TL.runG rfl rfl (pure_load Ty.agg23 rfl (.succ (.succ (.succ (.succ (.zero _)))))) rfl ?_ | refine TL.runG rfl rfl (pure_load_own Ty.agg23 rfl (by repeat (first | exact List.Mem.head _ | apply List.Mem.tail)) (by repeat (first | exact DropR.zero _ | apply DropR.succ)) (.succ (.succ (.succ (.succ (.zero _)))))) rfl ?_
                                                        refine TL.runG rfl rfl (pure_call (prop_spec f hf) (.cons rfl .nil) Tryd.call48) rfl ?_
                                                        refine TL.runG rfl rfl (pure_not rfl) rfl ?_
                                                        refine TL.run1 (pure_pick_false rfl rfl) rfl ?_
                                                        refine TL.cutEnd (by repeat (first | exact Same.refl _ _ | refine Same.put rfl ?_)) rfl ?_
                                                        first | (simp; done) | (simp_all; done) | grind
                                                    first | refine TC.condD rfl (fun hc44 => ?_) (fun hc44 => ?_) | refine TC.condN rfl (fun hc44 => ?_) (fun hc44 => ?_) | refine TC.cond rfl (fun hc44 => ?_) (fun hc44 => ?_)
                                                    · try dsimp only at hc44
                                                      refine TC.seq ?_
                                                      refine TC.region ?_
                                                      refine TL.run1 (pure_assign rfl) rfl ?_
                                                      refine TL.nil' ?_
                                                      refine TC.ret ?_
                                                      refine then_ret ?_
                                                      exact ret_int rfl (by unfold krP; rw [hk, if_pos hc44])
                                                    · try dsimp only at hc44
                                                      refine TC.skip' ?_
                                                      refine TC.seq ?_
                                                      refine TC.region ?_
                                                      first | refine TL.run1 (pure_load Ty.agg23 rfl (.succ (.succ (.succ (.succ (.zero _)))))) rfl ?_ | refine TL.run1 (pure_load_own Ty.agg23 rfl (by repeat (first | exact List.Mem.head _ | apply List.Mem.tail)) (by repeat (first | exact DropR.zero _ | apply DropR.succ)) (.succ (.succ (.succ (.succ (.zero _)))))) rfl ?_
                                                      refine TL.run1 (pure_move rfl) rfl ?_
                                                      first | refine TL.run1 (pure_call (scaled_spec f 80 hf (by omega) (by omega)) (.cons rfl (.cons rfl .nil)) Tryd.call49) rfl ?_ | refine TL.run1 (pure_call (scaled_spec f 60 hf (by omega) (by omega)) (.cons rfl (.cons rfl .nil)) Tryd.call49) rfl ?_
                                                      refine TL.run1 (pure_neg rfl (mkI64 (by omega) (by omega))) rfl ?_
                                                      refine TL.run1 (pure_assign rfl) rfl ?_
                                                      refine TL.nil' ?_
                                                      refine TC.ret ?_
                                                      exact ret_int rfl (by unfold krP; rw [hk, if_neg hc44])
                                                  · try dsimp only at hc20
                                                    exact absurd (by assumption) hc20
                                                · try dsimp only at hc20
                                                  refine TC.region ?_
                                                  refine TL.run1 (pure_eql_string rfl rfl) rfl ?_
                                                  refine TL.run1 (pure_assign rfl) rfl ?_
                                                  refine TL.nil' ?_
                                                  first | refine TC.condD rfl (fun hc20 => ?_) (fun hc20 => ?_) | refine TC.condN rfl (fun hc20 => ?_) (fun hc20 => ?_) | refine TC.cond rfl (fun hc20 => ?_) (fun hc20 => ?_)
                                                  · try dsimp only at hc20
                                                    refine TC.region ?_
                                                    refine TL.run1 (pure_assign rfl) rfl ?_
                                                    refine TL.nil ?_
                                                    refine block_normal ?_
                                                    refine then_normal ?_
                                                    refine TC.seq ?_
                                                    have hk : kK (a ++ b) = 60 := by rw [hc20]; decide +kernel
                                                    refine TC.regionCut [38, 39, 40, 41, 42, 43, 44] 44 ((60 : Int) = 0 ∨ ¬ f.face % 2 = 0) ?_ ?_
                                                    · skip
                                                      refine TL.run1 (pure_move rfl) rfl ?_
                                                      refine TL.run1 (pure_eql rfl rfl) rfl ?_
                                                      refine TL.run1 (pure_move rfl) rfl ?_
                                                      first | refine TL.splitP 40 rfl (fun hg40 => ?_) (fun hg40 => ?_) | refine TL.split 40 rfl (fun hg40 => ?_) (fun hg40 => ?_)
                                                      · try dsimp only at hg40
                                                        refine TL.passG rfl rfl rfl rfl ?_
                                                        refine TL.passG rfl rfl rfl rfl ?_
                                                        refine TL.passG rfl rfl rfl rfl ?_
                                                        refine TL.run1 (pure_pick_true rfl rfl) rfl ?_
                                                        refine TL.cutEnd (by repeat (first | exact Same.refl _ _ | refine Same.put rfl ?_)) rfl ?_
                                                        first | (simp; done) | (simp_all; done) | grind
                                                      · try dsimp only at hg40
                                                        first | refine TL.runG rfl rfl (pure_load Ty.agg23 rfl (.succ (.succ (.succ (.succ (.zero _)))))) rfl ?_ | refine TL.runG rfl rfl (pure_load_own Ty.agg23 rfl (by repeat (first | exact List.Mem.head _ | apply List.Mem.tail)) (by repeat (first | exact DropR.zero _ | apply DropR.succ)) (.succ (.succ (.succ (.succ (.zero _)))))) rfl ?_
                                                        refine TL.runG rfl rfl (pure_call (prop_spec f hf) (.cons rfl .nil) Tryd.call48) rfl ?_
                                                        refine TL.runG rfl rfl (pure_not rfl) rfl ?_
                                                        refine TL.run1 (pure_pick_false rfl rfl) rfl ?_
                                                        refine TL.cutEnd (by repeat (first | exact Same.refl _ _ | refine Same.put rfl ?_)) rfl ?_
                                                        first | (simp; done) | (simp_all; done) | grind
                                                    first | refine TC.condD rfl (fun hc44 => ?_) (fun hc44 => ?_) | refine TC.condN rfl (fun hc44 => ?_) (fun hc44 => ?_) | refine TC.cond rfl (fun hc44 => ?_) (fun hc44 => ?_)
                                                    · try dsimp only at hc44
                                                      refine TC.seq ?_
                                                      refine TC.region ?_
                                                      refine TL.run1 (pure_assign rfl) rfl ?_
                                                      refine TL.nil' ?_
                                                      refine TC.ret ?_
                                                      refine then_ret ?_
                                                      exact ret_int rfl (by unfold krP; rw [hk, if_pos hc44])
                                                    · try dsimp only at hc44
                                                      refine TC.skip' ?_
                                                      refine TC.seq ?_
                                                      refine TC.region ?_
                                                      first | refine TL.run1 (pure_load Ty.agg23 rfl (.succ (.succ (.succ (.succ (.zero _)))))) rfl ?_ | refine TL.run1 (pure_load_own Ty.agg23 rfl (by repeat (first | exact List.Mem.head _ | apply List.Mem.tail)) (by repeat (first | exact DropR.zero _ | apply DropR.succ)) (.succ (.succ (.succ (.succ (.zero _)))))) rfl ?_
                                                      refine TL.run1 (pure_move rfl) rfl ?_
                                                      first | refine TL.run1 (pure_call (scaled_spec f 80 hf (by omega) (by omega)) (.cons rfl (.cons rfl .nil)) Tryd.call49) rfl ?_ | refine TL.run1 (pure_call (scaled_spec f 60 hf (by omega) (by omega)) (.cons rfl (.cons rfl .nil)) Tryd.call49) rfl ?_
                                                      refine TL.run1 (pure_neg rfl (mkI64 (by omega) (by omega))) rfl ?_
                                                      refine TL.run1 (pure_assign rfl) rfl ?_
                                                      refine TL.nil' ?_
                                                      refine TC.ret ?_
                                                      exact ret_int rfl (by unfold krP; rw [hk, if_neg hc44])
                                                  · try dsimp only at hc20
                                                    refine TC.skip ?_
                                                    refine block_normal ?_
                                                    refine then_normal ?_
                                                    refine TC.seq ?_
                                                    have hk : kK (a ++ b) = 0 := by (unfold kK; rw [if_neg (by rintro (h | h | h | h | h | h | h | h) <;> contradiction), if_neg (by rintro (h | h | h | h | h | h | h | h | h | h | h | h | h | h | h | h | h) <;> contradiction)])
                                                    refine TC.regionCut [38, 39, 40, 41, 42, 43, 44] 44 ((0 : Int) = 0 ∨ ¬ f.face % 2 = 0) ?_ ?_
                                                    · skip
                                                      refine TL.run1 (pure_move rfl) rfl ?_
                                                      refine TL.run1 (pure_eql rfl rfl) rfl ?_
                                                      refine TL.run1 (pure_move rfl) rfl ?_
                                                      first | refine TL.splitP 40 rfl (fun hg40 => ?_) (fun hg40 => ?_) | refine TL.split 40 rfl (fun hg40 => ?_) (fun hg40 => ?_)
                                                      · try dsimp only at hg40
                                                        refine TL.passG rfl rfl rfl rfl ?_
                                                        refine TL.passG rfl rfl rfl rfl ?_
                                                        refine TL.passG rfl rfl rfl rfl ?_
                                                        refine TL.run1 (pure_pick_true rfl rfl) rfl ?_
                                                        refine TL.cutEnd (by repeat (first | exact Same.refl _ _ | refine Same.put rfl ?_)) rfl ?_
                                                        first | (simp; done) | (simp_all; done) | grind
                                                      · try dsimp only at hg40
                                                        first | refine TL.runG rfl rfl (pure_load Ty.agg23 rfl (.succ (.succ (.succ (.succ (.zero _)))))) rfl ?_ | refine TL.runG rfl rfl (pure_load_own Ty.agg23 rfl (by repeat (first | exact List.Mem.head _ | apply List.Mem.tail)) (by repeat (first | exact DropR.zero _ | apply DropR.succ)) (.succ (.succ (.succ (.succ (.zero _)))))) rfl ?_
                                                        refine TL.runG rfl rfl (pure_call (prop_spec f hf) (.cons rfl .nil) Tryd.call48) rfl ?_
                                                        refine TL.runG rfl rfl (pure_not rfl) rfl ?_
                                                        refine TL.run1 (pure_pick_false rfl rfl) rfl ?_
                                                        refine TL.cutEnd (by repeat (first | exact Same.refl _ _ | refine Same.put rfl ?_)) rfl ?_
                                                        first | (simp; done) | (simp_all; done) | grind
                                                    first | refine TC.condD rfl (fun hc44 => ?_) (fun hc44 => ?_) | refine TC.condN rfl (fun hc44 => ?_) (fun hc44 => ?_) | refine TC.cond rfl (fun hc44 => ?_) (fun hc44 => ?_)
                                                    · try dsimp only at hc44
                                                      refine TC.seq ?_
                                                      refine TC.region ?_
                                                      refine TL.run1 (pure_assign rfl) rfl ?_
                                                      refine TL.nil' ?_
                                                      refine TC.ret ?_
                                                      refine then_ret ?_
                                                      exact ret_int rfl (by unfold krP; rw [hk, if_pos hc44])
                                                    · try dsimp only at hc44
                                                      exact absurd (.inl rfl) hc44
end Go.Ob
