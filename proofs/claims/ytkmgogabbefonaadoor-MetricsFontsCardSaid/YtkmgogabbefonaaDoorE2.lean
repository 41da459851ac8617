import Derived.Test.YtkmgogabbefonaaDoorE1
set_option linter.unusedVariables false
set_option linter.unusedSimpArgs false
namespace Go.Ob
open Go.Proofs
set_option maxHeartbeats 2000000 in
set_option maxRecDepth 100000 in
theorem nominal_spec (f : Fo) (p : Int) (hf : ¬ FBad f) (h0 : 0 ≤ p) (h1 : p ≤ 1114111) : Fun Tryd.prog 47 [.agg [.v (.int .i64 f.face), .v (.int .i64 f.size), .v (.int .i64 f.raise), .v (.bool f.bold)], .v (.int .i64 p)] (.v (.int .i64 (nomP f p))) := by
  refine Fun.enter (n := 85) (rs := [.tmp 4]) Tryd.func47 rfl Tryd.ntmps47 Tryd.results47 rfl (fun w F => ?_)
  refine TC.seq ?_
  refine TC.region ?_
  refine TL.box rfl (.agg _) rfl (fun g2 => ?_)
  refine TL.run1 (pure_assign rfl) rfl ?_
  refine TL.nil' ?_
  refine TC.seq ?_
  refine TC.seq ?_
  refine TC.region ?_
  refine TL.run1 (pure_move rfl) rfl ?_
  refine TL.run1 (pure_call (Class_spec p) (.cons rfl .nil) Tryd.call56) rfl ?_
  refine TL.nil' ?_
  refine TC.block ?_
  refine TC.seq ?_
  refine TC.seq ?_
  refine TC.region ?_
  refine TL.run1 (pure_eql rfl rfl) rfl ?_
  refine TL.run1 (pure_assign rfl) rfl ?_
  refine TL.nil' ?_
  first | refine TC.condD rfl (fun hc7 => ?_) (fun hc7 => ?_) | refine TC.condN rfl (fun hc7 => ?_) (fun hc7 => ?_) | refine TC.cond rfl (fun hc7 => ?_) (fun hc7 => ?_)
  · try dsimp only at hc7
    refine TC.skip' ?_
    first | refine TC.condD rfl (fun hc7 => ?_) (fun hc7 => ?_) | refine TC.condN rfl (fun hc7 => ?_) (fun hc7 => ?_) | refine TC.cond rfl (fun hc7 => ?_) (fun hc7 => ?_)
    · try dsimp only at hc7
      refine TC.seq ?_
      refine TC.region ?_
      refine TL.run1 (pure_assign rfl) rfl ?_
      refine TL.nil' ?_
      refine TC.ret ?_
      refine block_ret ?_
      refine then_ret ?_
      exact ret_int rfl (by unfold nomP; rw [if_pos (show Zero (classP p) by unfold Zero; omega)])
    · try dsimp only at hc7
      exact absurd (by assumption) hc7
  · try dsimp only at hc7
    refine TC.seq ?_
    refine TC.region ?_
    refine TL.run1 (pure_eql rfl rfl) rfl ?_
    refine TL.run1 (pure_assign rfl) rfl ?_
    refine TL.nil' ?_
    first | refine TC.condD rfl (fun hc7 => ?_) (fun hc7 => ?_) | refine TC.condN rfl (fun hc7 => ?_) (fun hc7 => ?_) | refine TC.cond rfl (fun hc7 => ?_) (fun hc7 => ?_)
    · try dsimp only at hc7
      refine TC.skip' ?_
      first | refine TC.condD rfl (fun hc7 => ?_) (fun hc7 => ?_) | refine TC.condN rfl (fun hc7 => ?_) (fun hc7 => ?_) | refine TC.cond rfl (fun hc7 => ?_) (fun hc7 => ?_)
      · try dsimp only at hc7
        refine TC.seq ?_
        refine TC.region ?_
        refine TL.run1 (pure_assign rfl) rfl ?_
        refine TL.nil' ?_
        refine TC.ret ?_
        refine block_ret ?_
        refine then_ret ?_
        exact ret_int rfl (by unfold nomP; rw [if_pos (show Zero (classP p) by unfold Zero; omega)])
      · try dsimp only at hc7
        exact absurd (by assumption) hc7
    · try dsimp only at hc7
      refine TC.seq ?_
      refine TC.region ?_
      refine TL.run1 (pure_eql rfl rfl) rfl ?_
      refine TL.run1 (pure_assign rfl) rfl ?_
      refine TL.nil' ?_
      first | refine TC.condD rfl (fun hc7 => ?_) (fun hc7 => ?_) | refine TC.condN rfl (fun hc7 => ?_) (fun hc7 => ?_) | refine TC.cond rfl (fun hc7 => ?_) (fun hc7 => ?_)
      · try dsimp only at hc7
        refine TC.skip' ?_
        first | refine TC.condD rfl (fun hc7 => ?_) (fun hc7 => ?_) | refine TC.condN rfl (fun hc7 => ?_) (fun hc7 => ?_) | refine TC.cond rfl (fun hc7 => ?_) (fun hc7 => ?_)
        · try dsimp only at hc7
          refine TC.seq ?_
          refine TC.region ?_
          refine TL.run1 (pure_assign rfl) rfl ?_
          refine TL.nil' ?_
          refine TC.ret ?_
          refine block_ret ?_
          refine then_ret ?_
          exact ret_int rfl (by unfold nomP; rw [if_pos (show Zero (classP p) by unfold Zero; omega)])
        · try dsimp only at hc7
          exact absurd (by assumption) hc7
      · try dsimp only at hc7
        refine TC.seq ?_
        refine TC.region ?_
        refine TL.run1 (pure_eql rfl rfl) rfl ?_
        refine TL.run1 (pure_assign rfl) rfl ?_
        refine TL.nil' ?_
        first | refine TC.condD rfl (fun hc7 => ?_) (fun hc7 => ?_) | refine TC.condN rfl (fun hc7 => ?_) (fun hc7 => ?_) | refine TC.cond rfl (fun hc7 => ?_) (fun hc7 => ?_)
        · try dsimp only at hc7
          refine TC.skip' ?_
          first | refine TC.condD rfl (fun hc7 => ?_) (fun hc7 => ?_) | refine TC.condN rfl (fun hc7 => ?_) (fun hc7 => ?_) | refine TC.cond rfl (fun hc7 => ?_) (fun hc7 => ?_)
          · try dsimp only at hc7
            refine TC.seq ?_
            refine TC.region ?_
            refine TL.run1 (pure_assign rfl) rfl ?_
            refine TL.nil' ?_
            refine TC.ret ?_
            refine block_ret ?_
            refine then_ret ?_
            exact ret_int rfl (by unfold nomP; rw [if_pos (show Zero (classP p) by unfold Zero; omega)])
          · try dsimp only at hc7
            exact absurd (by assumption) hc7
        · try dsimp only at hc7
          refine TC.region ?_
          refine TL.run1 (pure_eql rfl rfl) rfl ?_
          refine TL.run1 (pure_assign rfl) rfl ?_
          refine TL.nil' ?_
          first | refine TC.condD rfl (fun hc7 => ?_) (fun hc7 => ?_) | refine TC.condN rfl (fun hc7 => ?_) (fun hc7 => ?_) | refine TC.cond rfl (fun hc7 => ?_) (fun hc7 => ?_)
          · try dsimp only at hc7
            refine TC.seq ?_
            refine TC.region ?_
            refine TL.run1 (pure_assign rfl) rfl ?_
            refine TL.nil' ?_
            refine TC.ret ?_
            refine block_ret ?_
            refine then_ret ?_
            exact ret_int rfl (by unfold nomP; rw [if_pos (show Zero (classP p) by unfold Zero; omega)])
          · try dsimp only at hc7
            refine TC.seq ?_
            refine TC.seq ?_
            refine TC.region ?_
            refine TL.run1 (pure_eql rfl rfl) rfl ?_
            refine TL.run1 (pure_assign rfl) rfl ?_
            refine TL.nil' ?_
            first | refine TC.condD rfl (fun hc13 => ?_) (fun hc13 => ?_) | refine TC.condN rfl (fun hc13 => ?_) (fun hc13 => ?_) | refine TC.cond rfl (fun hc13 => ?_) (fun hc13 => ?_)
            · try dsimp only at hc13
              refine TC.skip' ?_
              first | refine TC.condD rfl (fun hc13 => ?_) (fun hc13 => ?_) | refine TC.condN rfl (fun hc13 => ?_) (fun hc13 => ?_) | refine TC.cond rfl (fun hc13 => ?_) (fun hc13 => ?_)
              · try dsimp only at hc13
                refine TC.seq ?_
                refine TC.region ?_
                first | refine TL.run1 (pure_load Ty.agg23 rfl (.succ (.succ (.succ (.succ (.zero _)))))) rfl ?_ | refine TL.run1 (pure_load_own Ty.agg23 rfl (by repeat (first | exact List.Mem.head _ | apply List.Mem.tail)) (by repeat (first | exact DropR.zero _ | apply DropR.succ)) (.succ (.succ (.succ (.succ (.zero _)))))) rfl ?_
                refine TL.run1 (pure_call (wide_spec f hf) (.cons rfl .nil) Tryd.call66) rfl ?_
                refine TL.run1 (pure_assign rfl) rfl ?_
                refine TL.nil' ?_
                refine TC.ret ?_
                refine block_ret ?_
                refine then_ret ?_
                have hz : ¬ Zero (classP p) := by unfold Zero; omega
                exact ret_int rfl (by unfold nomP; rw [if_neg hz, if_pos (.inl (show WideC (classP p) by unfold WideC; omega))])
              · try dsimp only at hc13
                exact absurd (by assumption) hc13
            · try dsimp only at hc13
              refine TC.seq ?_
              refine TC.region ?_
              refine TL.run1 (pure_eql rfl rfl) rfl ?_
              refine TL.run1 (pure_assign rfl) rfl ?_
              refine TL.nil' ?_
              first | refine TC.condD rfl (fun hc13 => ?_) (fun hc13 => ?_) | refine TC.condN rfl (fun hc13 => ?_) (fun hc13 => ?_) | refine TC.cond rfl (fun hc13 => ?_) (fun hc13 => ?_)
              · try dsimp only at hc13
                refine TC.skip' ?_
                first | refine TC.condD rfl (fun hc13 => ?_) (fun hc13 => ?_) | refine TC.condN rfl (fun hc13 => ?_) (fun hc13 => ?_) | refine TC.cond rfl (fun hc13 => ?_) (fun hc13 => ?_)
                · try dsimp only at hc13
                  refine TC.seq ?_
                  refine TC.region ?_
                  first | refine TL.run1 (pure_load Ty.agg23 rfl (.succ (.succ (.succ (.succ (.zero _)))))) rfl ?_ | refine TL.run1 (pure_load_own Ty.agg23 rfl (by repeat (first | exact List.Mem.head _ | apply List.Mem.tail)) (by repeat (first | exact DropR.zero _ | apply DropR.succ)) (.succ (.succ (.succ (.succ (.zero _)))))) rfl ?_
                  refine TL.run1 (pure_call (wide_spec f hf) (.cons rfl .nil) Tryd.call66) rfl ?_
                  refine TL.run1 (pure_assign rfl) rfl ?_
                  refine TL.nil' ?_
                  refine TC.ret ?_
                  refine block_ret ?_
                  refine then_ret ?_
                  have hz : ¬ Zero (classP p) := by unfold Zero; omega
                  exact ret_int rfl (by unfold nomP; rw [if_neg hz, if_pos (.inl (show WideC (classP p) by unfold WideC; omega))])
                · try dsimp only at hc13
                  exact absurd (by assumption) hc13
              · try dsimp only at hc13
                refine TC.seq ?_
                refine TC.region ?_
                refine TL.run1 (pure_eql rfl rfl) rfl ?_
                refine TL.run1 (pure_assign rfl) rfl ?_
                refine TL.nil' ?_
                first | refine TC.condD rfl (fun hc13 => ?_) (fun hc13 => ?_) | refine TC.condN rfl (fun hc13 => ?_) (fun hc13 => ?_) | refine TC.cond rfl (fun hc13 => ?_) (fun hc13 => ?_)
                · try dsimp only at hc13
                  refine TC.skip' ?_
                  first | refine TC.condD rfl (fun hc13 => ?_) (fun hc13 => ?_) | refine TC.condN rfl (fun hc13 => ?_) (fun hc13 => ?_) | refine TC.cond rfl (fun hc13 => ?_) (fun hc13 => ?_)
                  · try dsimp only at hc13
                    refine TC.seq ?_
                    refine TC.region ?_
                    first | refine TL.run1 (pure_load Ty.agg23 rfl (.succ (.succ (.succ (.succ (.zero _)))))) rfl ?_ | refine TL.run1 (pure_load_own Ty.agg23 rfl (by repeat (first | exact List.Mem.head _ | apply List.Mem.tail)) (by repeat (first | exact DropR.zero _ | apply DropR.succ)) (.succ (.succ (.succ (.succ (.zero _)))))) rfl ?_
                    refine TL.run1 (pure_call (wide_spec f hf) (.cons rfl .nil) Tryd.call66) rfl ?_
                    refine TL.run1 (pure_assign rfl) rfl ?_
                    refine TL.nil' ?_
                    refine TC.ret ?_
                    refine block_ret ?_
                    refine then_ret ?_
                    have hz : ¬ Zero (classP p) := by unfold Zero; omega
                    exact ret_int rfl (by unfold nomP; rw [if_neg hz, if_pos (.inl (show WideC (classP p) by unfold WideC; omega))])
                  · try dsimp only at hc13
                    exact absurd (by assumption) hc13
                · try dsimp only at hc13
                  refine TC.seq ?_
                  refine TC.region ?_
                  refine TL.run1 (pure_eql rfl rfl) rfl ?_
                  refine TL.run1 (pure_assign rfl) rfl ?_
                  refine TL.nil' ?_
                  first | refine TC.condD rfl (fun hc13 => ?_) (fun hc13 => ?_) | refine TC.condN rfl (fun hc13 => ?_) (fun hc13 => ?_) | refine TC.cond rfl (fun hc13 => ?_) (fun hc13 => ?_)
                  · try dsimp only at hc13
                    refine TC.skip' ?_
                    first | refine TC.condD rfl (fun hc13 => ?_) (fun hc13 => ?_) | refine TC.condN rfl (fun hc13 => ?_) (fun hc13 => ?_) | refine TC.cond rfl (fun hc13 => ?_) (fun hc13 => ?_)
                    · try dsimp only at hc13
                      refine TC.seq ?_
                      refine TC.region ?_
                      first | refine TL.run1 (pure_load Ty.agg23 rfl (.succ (.succ (.succ (.succ (.zero _)))))) rfl ?_ | refine TL.run1 (pure_load_own Ty.agg23 rfl (by repeat (first | exact List.Mem.head _ | apply List.Mem.tail)) (by repeat (first | exact DropR.zero _ | apply DropR.succ)) (.succ (.succ (.succ (.succ (.zero _)))))) rfl ?_
                      refine TL.run1 (pure_call (wide_spec f hf) (.cons rfl .nil) Tryd.call66) rfl ?_
                      refine TL.run1 (pure_assign rfl) rfl ?_
                      refine TL.nil' ?_
                      refine TC.ret ?_
                      refine block_ret ?_
                      refine then_ret ?_
                      have hz : ¬ Zero (classP p) := by unfold Zero; omega
                      exact ret_int rfl (by unfold nomP; rw [if_neg hz, if_pos (.inl (show WideC (classP p) by unfold WideC; omega))])
                    · try dsimp only at hc13
                      exact absurd (by assumption) hc13
                  · try dsimp only at hc13
                    refine TC.seq ?_
                    refine TC.region ?_
                    refine TL.run1 (pure_eql rfl rfl) rfl ?_
                    refine TL.run1 (pure_assign rfl) rfl ?_
                    refine TL.nil' ?_
                    first | refine TC.condD rfl (fun hc13 => ?_) (fun hc13 => ?_) | refine TC.condN rfl (fun hc13 => ?_) (fun hc13 => ?_) | refine TC.cond rfl (fun hc13 => ?_) (fun hc13 => ?_)
                    · try dsimp only at hc13
                      refine TC.skip' ?_
                      first | refine TC.condD rfl (fun hc13 => ?_) (fun hc13 => ?_) | refine TC.condN rfl (fun hc13 => ?_) (fun hc13 => ?_) | refine TC.cond rfl (fun hc13 => ?_) (fun hc13 => ?_)
                      · try dsimp only at hc13
                        refine TC.seq ?_
                        refine TC.region ?_
                        first | refine TL.run1 (pure_load Ty.agg23 rfl (.succ (.succ (.succ (.succ (.zero _)))))) rfl ?_ | refine TL.run1 (pure_load_own Ty.agg23 rfl (by repeat (first | exact List.Mem.head _ | apply List.Mem.tail)) (by repeat (first | exact DropR.zero _ | apply DropR.succ)) (.succ (.succ (.succ (.succ (.zero _)))))) rfl ?_
                        refine TL.run1 (pure_call (wide_spec f hf) (.cons rfl .nil) Tryd.call66) rfl ?_
                        refine TL.run1 (pure_assign rfl) rfl ?_
                        refine TL.nil' ?_
                        refine TC.ret ?_
                        refine block_ret ?_
                        refine then_ret ?_
                        have hz : ¬ Zero (classP p) := by unfold Zero; omega
                        exact ret_int rfl (by unfold nomP; rw [if_neg hz, if_pos (.inl (show WideC (classP p) by unfold WideC; omega))])
                      · try dsimp only at hc13
                        exact absurd (by assumption) hc13
                    · try dsimp only at hc13
                      refine TC.seq ?_
                      refine TC.region ?_
                      refine TL.run1 (pure_eql rfl rfl) rfl ?_
                      refine TL.run1 (pure_assign rfl) rfl ?_
                      refine TL.nil' ?_
                      first | refine TC.condD rfl (fun hc13 => ?_) (fun hc13 => ?_) | refine TC.condN rfl (fun hc13 => ?_) (fun hc13 => ?_) | refine TC.cond rfl (fun hc13 => ?_) (fun hc13 => ?_)
                      · try dsimp only at hc13
                        refine TC.skip' ?_
                        first | refine TC.condD rfl (fun hc13 => ?_) (fun hc13 => ?_) | refine TC.condN rfl (fun hc13 => ?_) (fun hc13 => ?_) | refine TC.cond rfl (fun hc13 => ?_) (fun hc13 => ?_)
                        · try dsimp only at hc13
                          refine TC.seq ?_
                          refine TC.region ?_
                          first | refine TL.run1 (pure_load Ty.agg23 rfl (.succ (.succ (.succ (.succ (.zero _)))))) rfl ?_ | refine TL.run1 (pure_load_own Ty.agg23 rfl (by repeat (first | exact List.Mem.head _ | apply List.Mem.tail)) (by repeat (first | exact DropR.zero _ | apply DropR.succ)) (.succ (.succ (.succ (.succ (.zero _)))))) rfl ?_
                          refine TL.run1 (pure_call (wide_spec f hf) (.cons rfl .nil) Tryd.call66) rfl ?_
                          refine TL.run1 (pure_assign rfl) rfl ?_
                          refine TL.nil' ?_
                          refine TC.ret ?_
                          refine block_ret ?_
                          refine then_ret ?_
                          have hz : ¬ Zero (classP p) := by unfold Zero; omega
                          exact ret_int rfl (by unfold nomP; rw [if_neg hz, if_pos (.inl (show WideC (classP p) by unfold WideC; omega))])
                        · try dsimp only at hc13
                          exact absurd (by assumption) hc13
                      · try dsimp only at hc13
                        refine TC.region ?_
                        refine TL.run1 (pure_eql rfl rfl) rfl ?_
                        refine TL.run1 (pure_assign rfl) rfl ?_
                        refine TL.nil' ?_
                        first | refine TC.condD rfl (fun hc13 => ?_) (fun hc13 => ?_) | refine TC.condN rfl (fun hc13 => ?_) (fun hc13 => ?_) | refine TC.cond rfl (fun hc13 => ?_) (fun hc13 => ?_)
                        · try dsimp only at hc13
                          refine TC.seq ?_
                          refine TC.region ?_
                          first | refine TL.run1 (pure_load Ty.agg23 rfl (.succ (.succ (.succ (.succ (.zero _)))))) rfl ?_ | refine TL.run1 (pure_load_own Ty.agg23 rfl (by repeat (first | exact List.Mem.head _ | apply List.Mem.tail)) (by repeat (first | exact DropR.zero _ | apply DropR.succ)) (.succ (.succ (.succ (.succ (.zero _)))))) rfl ?_
                          refine TL.run1 (pure_call (wide_spec f hf) (.cons rfl .nil) Tryd.call66) rfl ?_
                          refine TL.run1 (pure_assign rfl) rfl ?_
                          refine TL.nil' ?_
                          refine TC.ret ?_
                          refine block_ret ?_
                          refine then_ret ?_
                          have hz : ¬ Zero (classP p) := by unfold Zero; omega
                          exact ret_int rfl (by unfold nomP; rw [if_neg hz, if_pos (.inl (show WideC (classP p) by unfold WideC; omega))])
                        · try dsimp only at hc13
                          refine TC.skip ?_
                          refine block_normal ?_
                          refine then_normal ?_
                          refine TC.seq ?_
                          refine TC.block ?_
                          refine TC.seq ?_
                          have hz : ¬ Zero (classP p) := by unfold Zero; rintro (h | h | h | h | h) <;> contradiction
                          have hwc : ¬ WideC (classP p) := by unfold WideC; rintro (h | h | h | h | h | h | h) <;> contradiction
                          refine TC.region ?_
                          refine TL.run1 (pure_move rfl) rfl ?_
                          refine TL.run1 (pure_geq rfl rfl) rfl ?_
                          refine TL.run1 (pure_assign rfl) rfl ?_
                          refine TL.nil' ?_
                          first | refine TC.condD rfl (fun hc23 => ?_) (fun hc23 => ?_) | refine TC.condN rfl (fun hc23 => ?_) (fun hc23 => ?_) | refine TC.cond rfl (fun hc23 => ?_) (fun hc23 => ?_)
                          · try dsimp only at hc23
                            refine TC.seq ?_
                            refine TC.region ?_
                            first | refine TL.run1 (pure_load Ty.agg23 rfl (.succ (.succ (.succ (.succ (.zero _)))))) rfl ?_ | refine TL.run1 (pure_load_own Ty.agg23 rfl (by repeat (first | exact List.Mem.head _ | apply List.Mem.tail)) (by repeat (first | exact DropR.zero _ | apply DropR.succ)) (.succ (.succ (.succ (.succ (.zero _)))))) rfl ?_
                            refine TL.run1 (pure_call (wide_spec f hf) (.cons rfl .nil) Tryd.call66) rfl ?_
                            refine TL.run1 (pure_assign rfl) rfl ?_
                            refine TL.nil' ?_
                            refine TC.ret ?_
                            refine block_ret ?_
                            refine then_ret ?_
                            exact ret_int rfl (by unfold nomP; rw [if_neg hz, if_pos (.inr hc23)])
                          · try dsimp only at hc23
                            have hw : ¬ (WideC (classP p) ∨ p ≥ 11904) := by rintro (h | h); exact hwc h; exact hc23 h
                            refine TC.seq ?_
                            refine TC.region ?_
                            first | refine TL.run1 (pure_load Ty.agg23 rfl (.succ (.succ (.succ (.succ (.zero _)))))) rfl ?_ | refine TL.run1 (pure_load_own Ty.agg23 rfl (by repeat (first | exact List.Mem.head _ | apply List.Mem.tail)) (by repeat (first | exact DropR.zero _ | apply DropR.succ)) (.succ (.succ (.succ (.succ (.zero _)))))) rfl ?_
                            refine TL.run1 (pure_call (prop_spec f hf) (.cons rfl .nil) Tryd.call48) rfl ?_
                            refine TL.run1 (pure_not rfl) rfl ?_
                            refine TL.run1 (pure_assign rfl) rfl ?_
                            refine TL.nil' ?_
                            first | refine TC.condD rfl (fun hc28 => ?_) (fun hc28 => ?_) | refine TC.condN rfl (fun hc28 => ?_) (fun hc28 => ?_) | refine TC.cond rfl (fun hc28 => ?_) (fun hc28 => ?_)
                            · try dsimp only at hc28
                              refine TC.seq ?_
                              refine TC.region ?_
                              refine TL.run1 (pure_assign rfl) rfl ?_
                              refine TL.nil' ?_
                              refine TC.ret ?_
                              refine block_ret ?_
                              refine then_ret ?_
                              exact ret_int rfl (by unfold nomP; rw [if_neg hz, if_neg hw, if_pos (by simpa using hc28)])
                            · try dsimp only at hc28
                              have hod : ¬ ¬ f.face % 2 = 0 := by simpa using hc28
                              refine TC.regionCut [33, 34, 35, 36, 37, 38, 32] 32 (p = 32 ∨ p = 160) ?_ ?_
                              · skip
                                refine TL.run1 (pure_move rfl) rfl ?_
                                refine TL.run1 (pure_eql rfl rfl) rfl ?_
                                refine TL.run1 (pure_move rfl) rfl ?_
                                first | refine TL.splitP 35 rfl (fun hg35 => ?_) (fun hg35 => ?_) | refine TL.split 35 rfl (fun hg35 => ?_) (fun hg35 => ?_)
                                · try dsimp only at hg35
                                  refine TL.passG rfl rfl rfl rfl ?_
                                  refine TL.passG rfl rfl rfl rfl ?_
                                  refine TL.run1 (pure_pick_true rfl rfl) rfl ?_
                                  refine TL.run1 (pure_assign rfl) rfl ?_
                                  refine TL.cutEnd (by repeat (first | exact Same.refl _ _ | refine Same.put rfl ?_)) rfl ?_
                                  first | (simp only [decide_eq_true_eq, Bool.false_eq_true, false_iff, true_iff, iff_true, iff_false, Bool.not_eq_true]; omega) | (simp_all; done) | (simp_all; omega) | grind
                                · try dsimp only at hg35
                                  refine TL.runG rfl rfl (pure_move rfl) rfl ?_
                                  refine TL.runG rfl rfl (pure_eql rfl rfl) rfl ?_
                                  refine TL.run1 (pure_pick_false rfl rfl) rfl ?_
                                  refine TL.run1 (pure_assign rfl) rfl ?_
                                  refine TL.cutEnd (by repeat (first | exact Same.refl _ _ | refine Same.put rfl ?_)) rfl ?_
                                  first | (simp only [decide_eq_true_eq, Bool.false_eq_true, false_iff, true_iff, iff_true, iff_false, Bool.not_eq_true]; omega) | (simp_all; done) | (simp_all; omega) | grind
                              first | refine TC.condD rfl (fun hc32 => ?_) (fun hc32 => ?_) | refine TC.condN rfl (fun hc32 => ?_) (fun hc32 => ?_) | refine TC.cond rfl (fun hc32 => ?_) (fun hc32 => ?_)
                              · try dsimp only at hc32
                                refine TC.seq ?_
                                refine TC.region ?_
                                refine TL.run1 (pure_assign rfl) rfl ?_
                                refine TL.nil' ?_
                                refine TC.ret ?_
                                refine block_ret ?_
                                refine then_ret ?_
                                exact ret_int rfl (by unfold nomP; rw [if_neg hz, if_neg hw, if_neg hod]; unfold baseP; rw [if_pos hc32])
                              · try dsimp only at hc32
                                refine TC.seq ?_
                                refine TC.region ?_
                                refine TL.run1 (pure_move rfl) rfl ?_
                                refine TL.run1 (pure_gtr rfl rfl) rfl ?_
                                refine TL.run1 (pure_assign rfl) rfl ?_
                                refine TL.nil' ?_
                                first | refine TC.condD rfl (fun hc39 => ?_) (fun hc39 => ?_) | refine TC.condN rfl (fun hc39 => ?_) (fun hc39 => ?_) | refine TC.cond rfl (fun hc39 => ?_) (fun hc39 => ?_)
                                · try dsimp only at hc39
                                  refine TC.seq ?_
                                  refine TC.region ?_
                                  refine TL.run1 (pure_assign rfl) rfl ?_
                                  refine TL.nil' ?_
                                  refine TC.ret ?_
                                  refine block_ret ?_
                                  refine then_ret ?_
                                  exact ret_int rfl (by unfold nomP; rw [if_neg hz, if_neg hw, if_neg hod, baseP_big p hc39 hc32])
                                · try dsimp only at hc39
                                  refine TC.seq ?_
                                  refine TC.region ?_
                                  refine TL.run1 (pure_move rfl) rfl ?_
                                  refine TL.run1 (pure_conv Tryd.underlying3 Tryd.underlying21 rfl (fit_i32 (by omega) (by omega))) rfl ?_
                                  first | refine TL.run1 (pure_call (ContainsRune_spec strA p h0 (by omega)) (.cons rfl (.cons rfl .nil)) Tryd.call67) rfl ?_ | refine TL.run1 (pure_call (ContainsRune_spec strB p h0 (by omega)) (.cons rfl (.cons rfl .nil)) Tryd.call67) rfl ?_
                                  refine TL.run1 (pure_assign rfl) rfl ?_
                                  refine TL.nil' ?_
                                  first | refine TC.condD rfl (fun hc42 => ?_) (fun hc42 => ?_) | refine TC.condN rfl (fun hc42 => ?_) (fun hc42 => ?_) | refine TC.cond rfl (fun hc42 => ?_) (fun hc42 => ?_)
                                  · try dsimp only at hc42
                                    have hA : hasB strA p = true := by (have h := hasA_of p.toNat (by omega); rw [show ((p.toNat : Nat) : Int) = p by omega] at h; rw [← h]; exact decide_eq_true hc42)
                                    refine TC.seq ?_
                                    refine TC.region ?_
                                    refine TL.run1 (pure_assign rfl) rfl ?_
                                    refine TL.nil' ?_
                                    refine TC.ret ?_
                                    refine block_ret ?_
                                    refine then_ret ?_
                                    exact ret_int rfl (by unfold nomP; rw [if_neg hz, if_neg hw, if_neg hod]; unfold baseP; rw [if_neg hc32, if_pos hA])
                                  · try dsimp only at hc42
                                    have hA : ¬ hasB strA p = true := by (have h := hasA_of p.toNat (by omega); rw [show ((p.toNat : Nat) : Int) = p by omega] at h; rw [← h]; simpa using hc42)
                                    refine TC.seq ?_
                                    refine TC.region ?_
                                    refine TL.run1 (pure_move rfl) rfl ?_
                                    refine TL.run1 (pure_conv Tryd.underlying3 Tryd.underlying21 rfl (fit_i32 (by omega) (by omega))) rfl ?_
                                    first | refine TL.run1 (pure_call (ContainsRune_spec strA p h0 (by omega)) (.cons rfl (.cons rfl .nil)) Tryd.call67) rfl ?_ | refine TL.run1 (pure_call (ContainsRune_spec strB p h0 (by omega)) (.cons rfl (.cons rfl .nil)) Tryd.call67) rfl ?_
                                    refine TL.run1 (pure_assign rfl) rfl ?_
                                    refine TL.nil' ?_
                                    first | refine TC.condD rfl (fun hc46 => ?_) (fun hc46 => ?_) | refine TC.condN rfl (fun hc46 => ?_) (fun hc46 => ?_) | refine TC.cond rfl (fun hc46 => ?_) (fun hc46 => ?_)
                                    · try dsimp only at hc46
                                      have hB : hasB strB p = true := by (have h := hasB_of p.toNat (by omega); rw [show ((p.toNat : Nat) : Int) = p by omega] at h; rw [← h]; exact decide_eq_true hc46)
                                      refine TC.seq ?_
                                      refine TC.region ?_
                                      refine TL.run1 (pure_assign rfl) rfl ?_
                                      refine TL.nil' ?_
                                      refine TC.ret ?_
                                      refine block_ret ?_
                                      refine then_ret ?_
                                      exact ret_int rfl (by unfold nomP; rw [if_neg hz, if_neg hw, if_neg hod]; unfold baseP; rw [if_neg hc32, if_neg hA, if_pos hB])
                                    · try dsimp only at hc46
                                      have hB : ¬ hasB strB p = true := by (have h := hasB_of p.toNat (by omega); rw [show ((p.toNat : Nat) : Int) = p by omega] at h; rw [← h]; simpa using hc46)
                                      refine TC.regionCut [51, 52, 53, 54, 55, 56, 50] 50 (p = 109 ∨ p = 119) ?_ ?_
                                      · skip
                                        refine TL.run1 (pure_move rfl) rfl ?_
                                        refine TL.run1 (pure_eql rfl rfl) rfl ?_
                                        refine TL.run1 (pure_move rfl) rfl ?_
                                        first | refine TL.splitP 53 rfl (fun hg53 => ?_) (fun hg53 => ?_) | refine TL.split 53 rfl (fun hg53 => ?_) (fun hg53 => ?_)
                                        · try dsimp only at hg53
                                          refine TL.passG rfl rfl rfl rfl ?_
                                          refine TL.passG rfl rfl rfl rfl ?_
                                          refine TL.run1 (pure_pick_true rfl rfl) rfl ?_
                                          refine TL.run1 (pure_assign rfl) rfl ?_
                                          refine TL.cutEnd (by repeat (first | exact Same.refl _ _ | refine Same.put rfl ?_)) rfl ?_
                                          first | (simp only [decide_eq_true_eq, Bool.false_eq_true, false_iff, true_iff, iff_true, iff_false, Bool.not_eq_true]; omega) | (simp_all; done) | (simp_all; omega) | grind
                                        · try dsimp only at hg53
                                          refine TL.runG rfl rfl (pure_move rfl) rfl ?_
                                          refine TL.runG rfl rfl (pure_eql rfl rfl) rfl ?_
                                          refine TL.run1 (pure_pick_false rfl rfl) rfl ?_
                                          refine TL.run1 (pure_assign rfl) rfl ?_
                                          refine TL.cutEnd (by repeat (first | exact Same.refl _ _ | refine Same.put rfl ?_)) rfl ?_
                                          first | (simp only [decide_eq_true_eq, Bool.false_eq_true, false_iff, true_iff, iff_true, iff_false, Bool.not_eq_true]; omega) | (simp_all; done) | (simp_all; omega) | grind
                                      first | refine TC.condD rfl (fun hc50 => ?_) (fun hc50 => ?_) | refine TC.condN rfl (fun hc50 => ?_) (fun hc50 => ?_) | refine TC.cond rfl (fun hc50 => ?_) (fun hc50 => ?_)
                                      · try dsimp only at hc50
                                        refine TC.seq ?_
                                        refine TC.region ?_
                                        refine TL.run1 (pure_assign rfl) rfl ?_
                                        refine TL.nil' ?_
                                        refine TC.ret ?_
                                        refine block_ret ?_
                                        refine then_ret ?_
                                        exact ret_int rfl (by unfold nomP; rw [if_neg hz, if_neg hw, if_neg hod]; unfold baseP; rw [if_neg hc32, if_neg hA, if_neg hB, if_pos hc50])
                                      · try dsimp only at hc50
                                        refine TC.regionCut [58, 59, 60, 61, 62, 63, 57] 57 (97 ≤ p ∧ p ≤ 122) ?_ ?_
                                        · skip
                                          refine TL.run1 (pure_move rfl) rfl ?_
                                          refine TL.run1 (pure_geq rfl rfl) rfl ?_
                                          refine TL.run1 (pure_move rfl) rfl ?_
                                          first | refine TL.splitP 60 rfl (fun hg60 => ?_) (fun hg60 => ?_) | refine TL.split 60 rfl (fun hg60 => ?_) (fun hg60 => ?_)
                                          · try dsimp only at hg60
                                            refine TL.runG rfl rfl (pure_move rfl) rfl ?_
                                            refine TL.runG rfl rfl (pure_leq rfl rfl) rfl ?_
                                            refine TL.run1 (pure_pick_true rfl rfl) rfl ?_
                                            refine TL.run1 (pure_assign rfl) rfl ?_
                                            refine TL.cutEnd (by repeat (first | exact Same.refl _ _ | refine Same.put rfl ?_)) rfl ?_
                                            first | (simp only [decide_eq_true_eq, Bool.false_eq_true, false_iff, true_iff, iff_true, iff_false, Bool.not_eq_true]; omega) | (simp_all; done) | (simp_all; omega) | grind
                                          · try dsimp only at hg60
                                            refine TL.passG rfl rfl rfl rfl ?_
                                            refine TL.passG rfl rfl rfl rfl ?_
                                            refine TL.run1 (pure_pick_false rfl rfl) rfl ?_
                                            refine TL.run1 (pure_assign rfl) rfl ?_
                                            refine TL.cutEnd (by repeat (first | exact Same.refl _ _ | refine Same.put rfl ?_)) rfl ?_
                                            first | (simp only [decide_eq_true_eq, Bool.false_eq_true, false_iff, true_iff, iff_true, iff_false, Bool.not_eq_true]; omega) | (simp_all; done) | (simp_all; omega) | grind
                                        first | refine TC.condD rfl (fun hc57 => ?_) (fun hc57 => ?_) | refine TC.condN rfl (fun hc57 => ?_) (fun hc57 => ?_) | refine TC.cond rfl (fun hc57 => ?_) (fun hc57 => ?_)
                                        · try dsimp only at hc57
                                          refine TC.seq ?_
                                          refine TC.region ?_
                                          refine TL.run1 (pure_assign rfl) rfl ?_
                                          refine TL.nil' ?_
                                          refine TC.ret ?_
                                          refine block_ret ?_
                                          refine then_ret ?_
                                          exact ret_int rfl (by unfold nomP; rw [if_neg hz, if_neg hw, if_neg hod]; unfold baseP; rw [if_neg hc32, if_neg hA, if_neg hB, if_neg hc50, if_pos hc57])
                                        · try dsimp only at hc57
                                          refine TC.regionCut [65, 66, 67, 68, 69, 70, 64] 64 (p = 77 ∨ p = 87) ?_ ?_
                                          · skip
                                            refine TL.run1 (pure_move rfl) rfl ?_
                                            refine TL.run1 (pure_eql rfl rfl) rfl ?_
                                            refine TL.run1 (pure_move rfl) rfl ?_
                                            first | refine TL.splitP 67 rfl (fun hg67 => ?_) (fun hg67 => ?_) | refine TL.split 67 rfl (fun hg67 => ?_) (fun hg67 => ?_)
                                            · try dsimp only at hg67
                                              refine TL.passG rfl rfl rfl rfl ?_
                                              refine TL.passG rfl rfl rfl rfl ?_
                                              refine TL.run1 (pure_pick_true rfl rfl) rfl ?_
                                              refine TL.run1 (pure_assign rfl) rfl ?_
                                              refine TL.cutEnd (by repeat (first | exact Same.refl _ _ | refine Same.put rfl ?_)) rfl ?_
                                              first | (simp only [decide_eq_true_eq, Bool.false_eq_true, false_iff, true_iff, iff_true, iff_false, Bool.not_eq_true]; omega) | (simp_all; done) | (simp_all; omega) | grind
                                            · try dsimp only at hg67
                                              refine TL.runG rfl rfl (pure_move rfl) rfl ?_
                                              refine TL.runG rfl rfl (pure_eql rfl rfl) rfl ?_
                                              refine TL.run1 (pure_pick_false rfl rfl) rfl ?_
                                              refine TL.run1 (pure_assign rfl) rfl ?_
                                              refine TL.cutEnd (by repeat (first | exact Same.refl _ _ | refine Same.put rfl ?_)) rfl ?_
                                              first | (simp only [decide_eq_true_eq, Bool.false_eq_true, false_iff, true_iff, iff_true, iff_false, Bool.not_eq_true]; omega) | (simp_all; done) | (simp_all; omega) | grind
                                          first | refine TC.condD rfl (fun hc64 => ?_) (fun hc64 => ?_) | refine TC.condN rfl (fun hc64 => ?_) (fun hc64 => ?_) | refine TC.cond rfl (fun hc64 => ?_) (fun hc64 => ?_)
                                          · try dsimp only at hc64
                                            refine TC.seq ?_
                                            refine TC.region ?_
                                            refine TL.run1 (pure_assign rfl) rfl ?_
                                            refine TL.nil' ?_
                                            refine TC.ret ?_
                                            refine block_ret ?_
                                            refine then_ret ?_
                                            exact ret_int rfl (by unfold nomP; rw [if_neg hz, if_neg hw, if_neg hod]; unfold baseP; rw [if_neg hc32, if_neg hA, if_neg hB, if_neg hc50, if_neg hc57, if_pos hc64])
                                          · try dsimp only at hc64
                                            refine TC.regionCut [72, 73, 74, 75, 76, 77, 71] 71 (65 ≤ p ∧ p ≤ 90) ?_ ?_
                                            · skip
                                              refine TL.run1 (pure_move rfl) rfl ?_
                                              refine TL.run1 (pure_geq rfl rfl) rfl ?_
                                              refine TL.run1 (pure_move rfl) rfl ?_
                                              first | refine TL.splitP 74 rfl (fun hg74 => ?_) (fun hg74 => ?_) | refine TL.split 74 rfl (fun hg74 => ?_) (fun hg74 => ?_)
                                              · try dsimp only at hg74
                                                refine TL.runG rfl rfl (pure_move rfl) rfl ?_
                                                refine TL.runG rfl rfl (pure_leq rfl rfl) rfl ?_
                                                refine TL.run1 (pure_pick_true rfl rfl) rfl ?_
                                                refine TL.run1 (pure_assign rfl) rfl ?_
                                                refine TL.cutEnd (by repeat (first | exact Same.refl _ _ | refine Same.put rfl ?_)) rfl ?_
                                                first | (simp only [decide_eq_true_eq, Bool.false_eq_true, false_iff, true_iff, iff_true, iff_false, Bool.not_eq_true]; omega) | (simp_all; done) | (simp_all; omega) | grind
                                              · try dsimp only at hg74
                                                refine TL.passG rfl rfl rfl rfl ?_
                                                refine TL.passG rfl rfl rfl rfl ?_
                                                refine TL.run1 (pure_pick_false rfl rfl) rfl ?_
                                                refine TL.run1 (pure_assign rfl) rfl ?_
                                                refine TL.cutEnd (by repeat (first | exact Same.refl _ _ | refine Same.put rfl ?_)) rfl ?_
                                                first | (simp only [decide_eq_true_eq, Bool.false_eq_true, false_iff, true_iff, iff_true, iff_false, Bool.not_eq_true]; omega) | (simp_all; done) | (simp_all; omega) | grind
                                            first | refine TC.condD rfl (fun hc71 => ?_) (fun hc71 => ?_) | refine TC.condN rfl (fun hc71 => ?_) (fun hc71 => ?_) | refine TC.cond rfl (fun hc71 => ?_) (fun hc71 => ?_)
                                            · try dsimp only at hc71
                                              refine TC.seq ?_
                                              refine TC.region ?_
                                              refine TL.run1 (pure_assign rfl) rfl ?_
                                              refine TL.nil' ?_
                                              refine TC.ret ?_
                                              refine block_ret ?_
                                              refine then_ret ?_
                                              exact ret_int rfl (by unfold nomP; rw [if_neg hz, if_neg hw, if_neg hod]; unfold baseP; rw [if_neg hc32, if_neg hA, if_neg hB, if_neg hc50, if_neg hc57, if_neg hc64, if_pos hc71])
                                            · try dsimp only at hc71
                                              refine TC.regionCut [79, 80, 81, 82, 83, 84, 78] 78 (48 ≤ p ∧ p ≤ 57) ?_ ?_
                                              · skip
                                                refine TL.run1 (pure_move rfl) rfl ?_
                                                refine TL.run1 (pure_geq rfl rfl) rfl ?_
                                                refine TL.run1 (pure_move rfl) rfl ?_
                                                first | refine TL.splitP 81 rfl (fun hg81 => ?_) (fun hg81 => ?_) | refine TL.split 81 rfl (fun hg81 => ?_) (fun hg81 => ?_)
                                                · try dsimp only at hg81
                                                  refine TL.runG rfl rfl (pure_move rfl) rfl ?_
                                                  refine TL.runG rfl rfl (pure_leq rfl rfl) rfl ?_
                                                  refine TL.run1 (pure_pick_true rfl rfl) rfl ?_
                                                  refine TL.run1 (pure_assign rfl) rfl ?_
                                                  refine TL.cutEnd (by repeat (first | exact Same.refl _ _ | refine Same.put rfl ?_)) rfl ?_
                                                  first | (simp only [decide_eq_true_eq, Bool.false_eq_true, false_iff, true_iff, iff_true, iff_false, Bool.not_eq_true]; omega) | (simp_all; done) | (simp_all; omega) | grind
                                                · try dsimp only at hg81
                                                  refine TL.passG rfl rfl rfl rfl ?_
                                                  refine TL.passG rfl rfl rfl rfl ?_
                                                  refine TL.run1 (pure_pick_false rfl rfl) rfl ?_
                                                  refine TL.run1 (pure_assign rfl) rfl ?_
                                                  refine TL.cutEnd (by repeat (first | exact Same.refl _ _ | refine Same.put rfl ?_)) rfl ?_
                                                  first | (simp only [decide_eq_true_eq, Bool.false_eq_true, false_iff, true_iff, iff_true, iff_false, Bool.not_eq_true]; omega) | (simp_all; done) | (simp_all; omega) | grind
                                              first | refine TC.condD rfl (fun hc78 => ?_) (fun hc78 => ?_) | refine TC.condN rfl (fun hc78 => ?_) (fun hc78 => ?_) | refine TC.cond rfl (fun hc78 => ?_) (fun hc78 => ?_)
                                              · try dsimp only at hc78
                                                refine TC.seq ?_
                                                refine TC.region ?_
                                                refine TL.run1 (pure_assign rfl) rfl ?_
                                                refine TL.nil' ?_
                                                refine TC.ret ?_
                                                refine block_ret ?_
                                                refine then_ret ?_
                                                exact ret_int rfl (by unfold nomP; rw [if_neg hz, if_neg hw, if_neg hod]; unfold baseP; rw [if_neg hc32, if_neg hA, if_neg hB, if_neg hc50, if_neg hc57, if_neg hc64, if_neg hc71, if_pos hc78])
                                              · try dsimp only at hc78
                                                refine TC.skip ?_
                                                refine block_normal ?_
                                                refine then_normal ?_
                                                refine TC.seq ?_
                                                refine TC.region ?_
                                                refine TL.run1 (pure_assign rfl) rfl ?_
                                                refine TL.nil' ?_
                                                refine TC.ret ?_
                                                exact ret_int rfl (by unfold nomP; rw [if_neg hz, if_neg hw, if_neg hod]; unfold baseP; rw [if_neg hc32, if_neg hA, if_neg hB, if_neg hc50, if_neg hc57, if_neg hc64, if_neg hc71, if_neg hc78])
set_option maxRecDepth 100000 in
theorem width_spec (f : Fo) (s : ByteArray) (hf : ¬ FBad f) (hok : okS s = true) (hs : s.size ≤ 1000000000) : Fun Tryd.prog 34 [.agg [.v (.int .i64 f.face), .v (.int .i64 f.size), .v (.int .i64 f.raise), .v (.bool f.bold)], .v (.string s)] (.v (.int .i64 (widP f s))) := by
  refine Fun.enter (n := 33) (rs := [.tmp 4]) Tryd.func34 rfl Tryd.ntmps34 Tryd.results34 rfl (fun w F => ?_)
  have hat := atP_range s
  have hnr := nomP_range f (atP s)
  have hnl := nomL_range f (atP s)
  refine TC.seq ?_
  refine TC.region ?_
  refine TL.box rfl (.agg _) rfl (fun g2 => ?_)
  refine TL.run1 (pure_assign rfl) rfl ?_
  refine TL.nil' ?_
  refine TC.seq ?_
  refine TC.region ?_
  refine TL.run1 (pure_move rfl) rfl ?_
  refine TL.run1 (pure_call (At0_spec s hs) (.cons rfl (.cons rfl .nil)) Tryd.call46) rfl ?_
  refine TL.run1 (pure_move rfl) rfl ?_
  refine TL.run1 (pure_extract rfl rfl) rfl ?_
  refine TL.run1 (pure_extract rfl rfl) rfl ?_
  refine TL.run1 (pure_extract rfl rfl) rfl ?_
  refine TL.run1 (pure_assign rfl) rfl ?_
  refine TL.run1 (pure_assign rfl) rfl ?_
  refine TL.run1 (pure_assign rfl) rfl ?_
  refine TL.nil' ?_
  refine TC.seq ?_
  refine TC.region ?_
  first | refine TL.run1 (pure_load Ty.agg23 rfl (.succ (.succ (.succ (.succ (.zero _)))))) rfl ?_ | refine TL.run1 (pure_load_own Ty.agg23 rfl (by repeat (first | exact List.Mem.head _ | apply List.Mem.tail)) (by repeat (first | exact DropR.zero _ | apply DropR.succ)) (.succ (.succ (.succ (.succ (.zero _)))))) rfl ?_
  refine TL.run1 (pure_move rfl) rfl ?_
  refine TL.run1 (pure_call (nominal_spec f (atP s) hf hat.1 hat.2) (.cons rfl (.cons rfl .nil)) Tryd.call47) rfl ?_
  refine TL.run1 (pure_assign rfl) rfl ?_
  refine TL.nil' ?_
  refine TC.seq ?_
  refine TC.regionCut [18, 19, 20, 21, 22, 23, 24, 25, 26, 27] 27 (f.face % 2 = 0 ∧ f.bold = true ∧ nomP f (atP s) ≠ 0) ?_ ?_
  · skip
    first | refine TL.run1 (pure_load Ty.agg23 rfl (.succ (.succ (.succ (.succ (.zero _)))))) rfl ?_ | refine TL.run1 (pure_load_own Ty.agg23 rfl (by repeat (first | exact List.Mem.head _ | apply List.Mem.tail)) (by repeat (first | exact DropR.zero _ | apply DropR.succ)) (.succ (.succ (.succ (.succ (.zero _)))))) rfl ?_
    refine TL.run1 (pure_call (prop_spec f hf) (.cons rfl .nil) Tryd.call48) rfl ?_
    refine TL.run1 (pure_move rfl) rfl ?_
    first | refine TL.splitP 20 rfl (fun hg20 => ?_) (fun hg20 => ?_) | refine TL.split 20 rfl (fun hg20 => ?_) (fun hg20 => ?_)
    · try dsimp only at hg20
      first | refine TL.runG rfl rfl (pure_fieldAddr Ty.f23_3 rfl (.succ (.succ (.succ (.zero _)))) (List.cons_ne_nil _ _)) rfl ?_ | refine TL.runG rfl rfl (pure_fieldAddr_own Ty.f23_3 rfl) rfl ?_
      first | refine TL.runG rfl rfl (pure_load1 Ty.one4 rfl) rfl ?_ | refine TL.runG rfl rfl (pure_load1_own Ty.one4 rfl (by repeat (first | exact List.Mem.head _ | apply List.Mem.tail)) (by repeat (first | exact DropR.zero _ | apply DropR.succ))) rfl ?_
      refine TL.run1 (pure_pick_true rfl rfl) rfl ?_
      refine TL.run1 (pure_move rfl) rfl ?_
      first | refine TL.splitP 24 rfl (fun hg24 => ?_) (fun hg24 => ?_) | refine TL.split 24 rfl (fun hg24 => ?_) (fun hg24 => ?_)
      · try dsimp only at hg24
        refine TL.runG rfl rfl (pure_move rfl) rfl ?_
        refine TL.runG rfl rfl (pure_neq rfl rfl) rfl ?_
        refine TL.run1 (pure_pick_true rfl rfl) rfl ?_
        refine TL.cutEnd (by repeat (first | exact Same.refl _ _ | refine Same.put rfl ?_)) rfl ?_
        first | (simp_all; done) | grind
      · try dsimp only at hg24
        refine TL.passG rfl rfl rfl rfl ?_
        refine TL.passG rfl rfl rfl rfl ?_
        refine TL.run1 (pure_pick_false rfl rfl) rfl ?_
        refine TL.cutEnd (by repeat (first | exact Same.refl _ _ | refine Same.put rfl ?_)) rfl ?_
        first | (simp_all; done) | grind
    · try dsimp only at hg20
      refine TL.passG rfl rfl rfl rfl ?_
      refine TL.passG rfl rfl rfl rfl ?_
      refine TL.run1 (pure_pick_false rfl rfl) rfl ?_
      refine TL.run1 (pure_move rfl) rfl ?_
      refine TL.passG rfl rfl rfl rfl ?_
      refine TL.passG rfl rfl rfl rfl ?_
      refine TL.run1 (pure_pick_false rfl rfl) rfl ?_
      refine TL.cutEnd (by repeat (first | exact Same.refl _ _ | refine Same.put rfl ?_)) rfl ?_
      first | (simp_all; done) | grind
  first | refine TC.condD rfl (fun hc27 => ?_) (fun hc27 => ?_) | refine TC.condN rfl (fun hc27 => ?_) (fun hc27 => ?_) | refine TC.cond rfl (fun hc27 => ?_) (fun hc27 => ?_)
  · try dsimp only at hc27
    have hN : nomP f (atP s) + 40 = nomL f (atP s) := by unfold nomL; rw [if_pos hc27]
    refine TC.region ?_
    refine TL.run1 (pure_move rfl) rfl ?_
    refine TL.run1 (pure_add rfl rfl (mkI64 (by omega) (by omega))) rfl ?_
    refine TL.run1 (pure_assign rfl) rfl ?_
    refine TL.nil' ?_
    refine TC.seq ?_
    rw [hN]
    refine TC.region ?_
    first | refine TL.run1 (pure_load Ty.agg23 rfl (.succ (.succ (.succ (.succ (.zero _)))))) rfl ?_ | refine TL.run1 (pure_load_own Ty.agg23 rfl (by repeat (first | exact List.Mem.head _ | apply List.Mem.tail)) (by repeat (first | exact DropR.zero _ | apply DropR.succ)) (.succ (.succ (.succ (.succ (.zero _)))))) rfl ?_
    refine TL.run1 (pure_move rfl) rfl ?_
    refine TL.run1 (pure_call (scaled_spec f (nomL f (atP s)) hf hnl.1 (by omega)) (.cons rfl (.cons rfl .nil)) Tryd.call49) rfl ?_
    refine TL.run1 (pure_assign rfl) rfl ?_
    refine TL.nil' ?_
    refine TC.ret ?_
    exact ret_int rfl (by unfold widP; rw [← atP_ok hok])
  · try dsimp only at hc27
    have hN : nomP f (atP s) = nomL f (atP s) := by unfold nomL; rw [if_neg hc27]
    refine TC.skip' ?_
    refine TC.seq ?_
    rw [hN]
    refine TC.region ?_
    first | refine TL.run1 (pure_load Ty.agg23 rfl (.succ (.succ (.succ (.succ (.zero _)))))) rfl ?_ | refine TL.run1 (pure_load_own Ty.agg23 rfl (by repeat (first | exact List.Mem.head _ | apply List.Mem.tail)) (by repeat (first | exact DropR.zero _ | apply DropR.succ)) (.succ (.succ (.succ (.succ (.zero _)))))) rfl ?_
    refine TL.run1 (pure_move rfl) rfl ?_
    refine TL.run1 (pure_call (scaled_spec f (nomL f (atP s)) hf hnl.1 (by omega)) (.cons rfl (.cons rfl .nil)) Tryd.call49) rfl ?_
    refine TL.run1 (pure_assign rfl) rfl ?_
    refine TL.nil' ?_
    refine TC.ret ?_
    exact ret_int rfl (by unfold widP; rw [← atP_ok hok])
end Go.Ob
