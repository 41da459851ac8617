import Derived.Test.YtajklmaaokgecaaK5
set_option linter.unusedVariables false
set_option linter.unusedSimpArgs false
namespace Go.Ob
open Go.Proofs

theorem in_look {l : List (Int × Int)} (h : Inc (keysP l)) (key : Int) : inI (keysP l) key = (lookP l key).isSome := by
  have h0 := getP_lb l key 0 h
  have h1 := getP_lb l key 1 h
  rw [getP_look] at h0 h1
  cases hb : inI (keysP l) key with
  | false =>
    cases hl : lookP l key with
    | none => rfl
    | some v => rw [hb, hl] at h0 h1; simp only [Option.getD_some, Bool.false_eq_true, if_false] at h0 h1; omega
  | true =>
    cases hl : lookP l key with
    | some v => rfl
    | none => rw [hb, hl] at h0 h1; simp only [Option.getD_none, if_true] at h0 h1; omega
set_option maxRecDepth 100000 in
theorem PropertyFits_spec (e key v : Int) : Fun Try.prog 3 [.v (.int .i64 e), .v (.int .i64 key), .v (.int .i64 v)] (.v (.bool true)) := by
  refine Fun.enter (n := 46) (rs := [.tmp 6]) Try.func3 rfl Try.ntmps3 Try.results3 rfl (fun w F => ?_)
  refine TC.seq ?_
  refine TC.region ?_
  refine TL.run1 (pure_assign rfl) rfl ?_
  refine TL.nil' ?_
  refine TC.seq ?_
  refine TC.region ?_
  refine TL.run1 (pure_move rfl) rfl ?_
  refine TL.run1 (pure_call (Of_spec _) (.cons rfl .nil) Try.call13) rfl ?_
  refine TL.run1 (pure_move rfl) rfl ?_
  refine TL.run1 (pure_extract rfl rfl) rfl ?_
  refine TL.run1 (pure_extract rfl rfl) rfl ?_
  refine TL.alloc Ty.zero23 rfl (fun g7 => ?_)
  refine TL.store rfl rfl (.agg _) Try.sizeOf23 rfl (by repeat (first | exact UpdR.here _ | apply UpdR.there)) (by repeat (first | exact PutR.nil _ | apply PutR.here | apply PutR.skip)) ?_
  refine TL.run1 (pure_assign rfl) rfl ?_
  refine TL.nil' ?_
  refine TC.seq ?_
  refine TC.region ?_
  refine TL.run1 (pure_assign rfl) rfl ?_
  refine TL.nil' ?_
  refine TC.seq ?_
  refine TC.block ?_
  refine TC.seq ?_
  refine TC.region ?_
  refine TL.run1 (pure_move rfl) rfl ?_
  refine TL.run1 (pure_not rfl) rfl ?_
  refine TL.run1 (pure_assign rfl) rfl ?_
  refine TL.nil' ?_
  first | refine TC.condD rfl (fun hc15 => ?_) (fun hc15 => ?_) | refine TC.condN rfl (fun hc15 => ?_) (fun hc15 => ?_) | refine TC.cond rfl (fun hc15 => ?_) (fun hc15 => ?_)
  · try dsimp only at hc15
    have hin : inI (keysK tableK) key = false := decide_eq_false hc15
    refine TC.region ?_
    refine TL.run1 (pure_assign rfl) rfl ?_
    refine TL.nil ?_
    refine block_normal ?_
    refine then_normal ?_
    have hcv : checkV key v = 4 := by unfold checkV; rw [hin]; simp_all
    clear hin
    refine TC.regionCut [29, 30, 31, 32, 33, 34, 35, 36, 37, 38, 39, 40, 41, 42, 43, 44, 45, 6] 6 (True) ?_ ?_
    · skip
      refine TL.run1 (pure_call (known_spec) .nil Try.call14) rfl ?_
      refine TL.run1 (pure_move rfl) rfl ?_
      first | refine TL.splitP 30 rfl (fun hg30 => ?_) (fun hg30 => ?_) | refine TL.split 30 rfl (fun hg30 => ?_) (fun hg30 => ?_)
      · try dsimp only at hg30
        refine TL.runG rfl rfl (pure_move rfl) rfl ?_
        refine TL.runG rfl rfl (pure_move rfl) rfl ?_
        refine TL.runG rfl rfl (pure_call (Fits_spec _ _) (.cons rfl (.cons rfl .nil)) Try.call15) rfl ?_
        refine TL.runG rfl rfl (pure_move rfl) rfl ?_
        refine TL.runG rfl rfl (pure_move rfl) rfl ?_
        refine TL.runG rfl rfl (pure_call (RFits_spec _ _) (.cons rfl (.cons rfl .nil)) Try.call16) rfl ?_
        refine TL.runG rfl rfl (pure_eql_bool Try.underlying4 rfl rfl) rfl ?_
        refine TL.run1 (pure_pick_true rfl rfl) rfl ?_
        refine TL.run1 (pure_move rfl) rfl ?_
        first | refine TL.splitP 39 rfl (fun hg39 => ?_) (fun hg39 => ?_) | refine TL.split 39 rfl (fun hg39 => ?_) (fun hg39 => ?_)
        · try dsimp only at hg39
          refine TL.runG rfl rfl (pure_move rfl) rfl ?_
          refine TL.runG rfl rfl (pure_move rfl) rfl ?_
          refine TL.runG rfl rfl (pure_call (CheckValue_spec _ _) (.cons rfl (.cons rfl .nil)) Try.call17) rfl ?_
          refine TL.runG rfl rfl (pure_move rfl) rfl ?_
          refine TL.runG rfl rfl (pure_eql rfl rfl) rfl ?_
          refine TL.run1 (pure_pick_true rfl rfl) rfl ?_
          refine TL.run1 (pure_assign rfl) rfl ?_
          refine TL.cutEnd (by repeat (first | exact Same.refl _ _ | refine Same.put rfl ?_)) rfl ?_
          first | (simp only [decide_eq_true_eq, Bool.false_eq_true, false_iff, true_iff, iff_true, iff_false, Bool.not_eq_true]; omega) | (simp_all; done) | (simp_all; omega) | grind
        · try dsimp only at hg39
          refine TL.passG rfl rfl rfl rfl ?_
          refine TL.passG rfl rfl rfl rfl ?_
          refine TL.passG rfl rfl rfl rfl ?_
          refine TL.passG rfl rfl rfl rfl ?_
          refine TL.passG rfl rfl rfl rfl ?_
          refine TL.run1 (pure_pick_false rfl rfl) rfl ?_
          refine TL.run1 (pure_assign rfl) rfl ?_
          refine TL.cutEnd (by repeat (first | exact Same.refl _ _ | refine Same.put rfl ?_)) rfl ?_
          first | (simp only [decide_eq_true_eq, Bool.false_eq_true, false_iff, true_iff, iff_true, iff_false, Bool.not_eq_true]; omega) | (simp_all; done) | (simp_all; omega) | grind
      · try dsimp only at hg30
        refine TL.passG rfl rfl rfl rfl ?_
        refine TL.passG rfl rfl rfl rfl ?_
        refine TL.passG rfl rfl rfl rfl ?_
        refine TL.passG rfl rfl rfl rfl ?_
        refine TL.passG rfl rfl rfl rfl ?_
        refine TL.passG rfl rfl rfl rfl ?_
        refine TL.passG rfl rfl rfl rfl ?_
        refine TL.run1 (pure_pick_false rfl rfl) rfl ?_
        refine TL.run1 (pure_move rfl) rfl ?_
        refine TL.passG rfl rfl rfl rfl ?_
        refine TL.passG rfl rfl rfl rfl ?_
        refine TL.passG rfl rfl rfl rfl ?_
        refine TL.passG rfl rfl rfl rfl ?_
        refine TL.passG rfl rfl rfl rfl ?_
        refine TL.run1 (pure_pick_false rfl rfl) rfl ?_
        refine TL.run1 (pure_assign rfl) rfl ?_
        refine TL.cutEnd (by repeat (first | exact Same.refl _ _ | refine Same.put rfl ?_)) rfl ?_
        first | (simp only [decide_eq_true_eq, Bool.false_eq_true, false_iff, true_iff, iff_true, iff_false, Bool.not_eq_true]; omega) | (simp_all; done) | (simp_all; omega) | grind
    refine TC.ret ?_
    exact ret_bool rfl (by simp)
  · try dsimp only at hc15
    have hin : inI (keysK tableK) key = true := decide_eq_true hc15
    refine TC.regionCut [19, 20, 21, 22, 23, 24, 25, 26, 27, 28, 18] 18 (v < (findK key).low ∨ v > (findK key).high) ?_ ?_
    · skip
      refine TL.run1 (pure_move rfl) rfl ?_
      first | refine TL.run1 (pure_fieldAddr Ty.f23_2 rfl (.succ (.succ (.zero _))) (List.cons_ne_nil _ _)) rfl ?_ | refine TL.run1 (pure_fieldAddr_own Ty.f23_2 rfl) rfl ?_
      first | refine TL.run1 (pure_load1 Ty.one3 rfl) rfl ?_ | refine TL.run1 (pure_load1_own Ty.one3 rfl (by repeat (first | exact List.Mem.head _ | apply List.Mem.tail)) (by repeat (first | exact DropR.zero _ | apply DropR.succ))) rfl ?_
      refine TL.run1 (pure_lss rfl rfl) rfl ?_
      refine TL.run1 (pure_move rfl) rfl ?_
      first | refine TL.splitP 23 rfl (fun hg23 => ?_) (fun hg23 => ?_) | refine TL.split 23 rfl (fun hg23 => ?_) (fun hg23 => ?_)
      · try dsimp only at hg23
        refine TL.passG rfl rfl rfl rfl ?_
        refine TL.passG rfl rfl rfl rfl ?_
        refine TL.passG rfl rfl rfl rfl ?_
        refine TL.passG rfl rfl rfl rfl ?_
        refine TL.run1 (pure_pick_true rfl rfl) rfl ?_
        refine TL.run1 (pure_assign rfl) rfl ?_
        refine TL.cutEnd (by repeat (first | exact Same.refl _ _ | refine Same.put rfl ?_)) rfl ?_
        first | (simp only [decide_eq_true_eq, Bool.false_eq_true, false_iff, true_iff, iff_true, iff_false, Bool.not_eq_true]; omega) | (simp_all; done) | (simp_all; omega) | grind
      · try dsimp only at hg23
        refine TL.runG rfl rfl (pure_move rfl) rfl ?_
        first | refine TL.runG rfl rfl (pure_fieldAddr Ty.f23_3 rfl (.succ (.succ (.succ (.zero _)))) (List.cons_ne_nil _ _)) rfl ?_ | refine TL.runG rfl rfl (pure_fieldAddr_own Ty.f23_3 rfl) rfl ?_
        first | refine TL.runG rfl rfl (pure_load1 Ty.one3 rfl) rfl ?_ | refine TL.runG rfl rfl (pure_load1_own Ty.one3 rfl (by repeat (first | exact List.Mem.head _ | apply List.Mem.tail)) (by repeat (first | exact DropR.zero _ | apply DropR.succ))) rfl ?_
        refine TL.runG rfl rfl (pure_gtr rfl rfl) rfl ?_
        refine TL.run1 (pure_pick_false rfl rfl) rfl ?_
        refine TL.run1 (pure_assign rfl) rfl ?_
        refine TL.cutEnd (by repeat (first | exact Same.refl _ _ | refine Same.put rfl ?_)) rfl ?_
        first | (simp only [decide_eq_true_eq, Bool.false_eq_true, false_iff, true_iff, iff_true, iff_false, Bool.not_eq_true]; omega) | (simp_all; done) | (simp_all; omega) | grind
    first | refine TC.condD rfl (fun hc18 => ?_) (fun hc18 => ?_) | refine TC.condN rfl (fun hc18 => ?_) (fun hc18 => ?_) | refine TC.cond rfl (fun hc18 => ?_) (fun hc18 => ?_)
    · try dsimp only at hc18
      refine TC.region ?_
      refine TL.run1 (pure_assign rfl) rfl ?_
      refine TL.nil ?_
      refine block_normal ?_
      refine then_normal ?_
      have hcv : checkV key v = 5 := by unfold checkV; rw [hin]; simp_all
      clear hin
      refine TC.regionCut [29, 30, 31, 32, 33, 34, 35, 36, 37, 38, 39, 40, 41, 42, 43, 44, 45, 6] 6 (True) ?_ ?_
      · skip
        refine TL.run1 (pure_call (known_spec) .nil Try.call14) rfl ?_
        refine TL.run1 (pure_move rfl) rfl ?_
        first | refine TL.splitP 30 rfl (fun hg30 => ?_) (fun hg30 => ?_) | refine TL.split 30 rfl (fun hg30 => ?_) (fun hg30 => ?_)
        · try dsimp only at hg30
          refine TL.runG rfl rfl (pure_move rfl) rfl ?_
          refine TL.runG rfl rfl (pure_move rfl) rfl ?_
          refine TL.runG rfl rfl (pure_call (Fits_spec _ _) (.cons rfl (.cons rfl .nil)) Try.call15) rfl ?_
          refine TL.runG rfl rfl (pure_move rfl) rfl ?_
          refine TL.runG rfl rfl (pure_move rfl) rfl ?_
          refine TL.runG rfl rfl (pure_call (RFits_spec _ _) (.cons rfl (.cons rfl .nil)) Try.call16) rfl ?_
          refine TL.runG rfl rfl (pure_eql_bool Try.underlying4 rfl rfl) rfl ?_
          refine TL.run1 (pure_pick_true rfl rfl) rfl ?_
          refine TL.run1 (pure_move rfl) rfl ?_
          first | refine TL.splitP 39 rfl (fun hg39 => ?_) (fun hg39 => ?_) | refine TL.split 39 rfl (fun hg39 => ?_) (fun hg39 => ?_)
          · try dsimp only at hg39
            refine TL.runG rfl rfl (pure_move rfl) rfl ?_
            refine TL.runG rfl rfl (pure_move rfl) rfl ?_
            refine TL.runG rfl rfl (pure_call (CheckValue_spec _ _) (.cons rfl (.cons rfl .nil)) Try.call17) rfl ?_
            refine TL.runG rfl rfl (pure_move rfl) rfl ?_
            refine TL.runG rfl rfl (pure_eql rfl rfl) rfl ?_
            refine TL.run1 (pure_pick_true rfl rfl) rfl ?_
            refine TL.run1 (pure_assign rfl) rfl ?_
            refine TL.cutEnd (by repeat (first | exact Same.refl _ _ | refine Same.put rfl ?_)) rfl ?_
            first | (simp only [decide_eq_true_eq, Bool.false_eq_true, false_iff, true_iff, iff_true, iff_false, Bool.not_eq_true]; omega) | (simp_all; done) | (simp_all; omega) | grind
          · try dsimp only at hg39
            refine TL.passG rfl rfl rfl rfl ?_
            refine TL.passG rfl rfl rfl rfl ?_
            refine TL.passG rfl rfl rfl rfl ?_
            refine TL.passG rfl rfl rfl rfl ?_
            refine TL.passG rfl rfl rfl rfl ?_
            refine TL.run1 (pure_pick_false rfl rfl) rfl ?_
            refine TL.run1 (pure_assign rfl) rfl ?_
            refine TL.cutEnd (by repeat (first | exact Same.refl _ _ | refine Same.put rfl ?_)) rfl ?_
            first | (simp only [decide_eq_true_eq, Bool.false_eq_true, false_iff, true_iff, iff_true, iff_false, Bool.not_eq_true]; omega) | (simp_all; done) | (simp_all; omega) | grind
        · try dsimp only at hg30
          refine TL.passG rfl rfl rfl rfl ?_
          refine TL.passG rfl rfl rfl rfl ?_
          refine TL.passG rfl rfl rfl rfl ?_
          refine TL.passG rfl rfl rfl rfl ?_
          refine TL.passG rfl rfl rfl rfl ?_
          refine TL.passG rfl rfl rfl rfl ?_
          refine TL.passG rfl rfl rfl rfl ?_
          refine TL.run1 (pure_pick_false rfl rfl) rfl ?_
          refine TL.run1 (pure_move rfl) rfl ?_
          refine TL.passG rfl rfl rfl rfl ?_
          refine TL.passG rfl rfl rfl rfl ?_
          refine TL.passG rfl rfl rfl rfl ?_
          refine TL.passG rfl rfl rfl rfl ?_
          refine TL.passG rfl rfl rfl rfl ?_
          refine TL.run1 (pure_pick_false rfl rfl) rfl ?_
          refine TL.run1 (pure_assign rfl) rfl ?_
          refine TL.cutEnd (by repeat (first | exact Same.refl _ _ | refine Same.put rfl ?_)) rfl ?_
          first | (simp only [decide_eq_true_eq, Bool.false_eq_true, false_iff, true_iff, iff_true, iff_false, Bool.not_eq_true]; omega) | (simp_all; done) | (simp_all; omega) | grind
      refine TC.ret ?_
      exact ret_bool rfl (by simp)
    · try dsimp only at hc18
      refine TC.skip ?_
      refine block_normal ?_
      refine then_normal ?_
      have hcv : checkV key v = 0 := by unfold checkV; rw [hin]; simp_all
      clear hin
      refine TC.regionCut [29, 30, 31, 32, 33, 34, 35, 36, 37, 38, 39, 40, 41, 42, 43, 44, 45, 6] 6 (True) ?_ ?_
      · skip
        refine TL.run1 (pure_call (known_spec) .nil Try.call14) rfl ?_
        refine TL.run1 (pure_move rfl) rfl ?_
        first | refine TL.splitP 30 rfl (fun hg30 => ?_) (fun hg30 => ?_) | refine TL.split 30 rfl (fun hg30 => ?_) (fun hg30 => ?_)
        · try dsimp only at hg30
          refine TL.runG rfl rfl (pure_move rfl) rfl ?_
          refine TL.runG rfl rfl (pure_move rfl) rfl ?_
          refine TL.runG rfl rfl (pure_call (Fits_spec _ _) (.cons rfl (.cons rfl .nil)) Try.call15) rfl ?_
          refine TL.runG rfl rfl (pure_move rfl) rfl ?_
          refine TL.runG rfl rfl (pure_move rfl) rfl ?_
          refine TL.runG rfl rfl (pure_call (RFits_spec _ _) (.cons rfl (.cons rfl .nil)) Try.call16) rfl ?_
          refine TL.runG rfl rfl (pure_eql_bool Try.underlying4 rfl rfl) rfl ?_
          refine TL.run1 (pure_pick_true rfl rfl) rfl ?_
          refine TL.run1 (pure_move rfl) rfl ?_
          first | refine TL.splitP 39 rfl (fun hg39 => ?_) (fun hg39 => ?_) | refine TL.split 39 rfl (fun hg39 => ?_) (fun hg39 => ?_)
          · try dsimp only at hg39
            refine TL.runG rfl rfl (pure_move rfl) rfl ?_
            refine TL.runG rfl rfl (pure_move rfl) rfl ?_
            refine TL.runG rfl rfl (pure_call (CheckValue_spec _ _) (.cons rfl (.cons rfl .nil)) Try.call17) rfl ?_
            refine TL.runG rfl rfl (pure_move rfl) rfl ?_
            refine TL.runG rfl rfl (pure_eql rfl rfl) rfl ?_
            refine TL.run1 (pure_pick_true rfl rfl) rfl ?_
            refine TL.run1 (pure_assign rfl) rfl ?_
            refine TL.cutEnd (by repeat (first | exact Same.refl _ _ | refine Same.put rfl ?_)) rfl ?_
            first | (simp only [decide_eq_true_eq, Bool.false_eq_true, false_iff, true_iff, iff_true, iff_false, Bool.not_eq_true]; omega) | (simp_all; done) | (simp_all; omega) | grind
          · try dsimp only at hg39
            refine TL.passG rfl rfl rfl rfl ?_
            refine TL.passG rfl rfl rfl rfl ?_
            refine TL.passG rfl rfl rfl rfl ?_
            refine TL.passG rfl rfl rfl rfl ?_
            refine TL.passG rfl rfl rfl rfl ?_
            refine TL.run1 (pure_pick_false rfl rfl) rfl ?_
            refine TL.run1 (pure_assign rfl) rfl ?_
            refine TL.cutEnd (by repeat (first | exact Same.refl _ _ | refine Same.put rfl ?_)) rfl ?_
            first | (simp only [decide_eq_true_eq, Bool.false_eq_true, false_iff, true_iff, iff_true, iff_false, Bool.not_eq_true]; omega) | (simp_all; done) | (simp_all; omega) | grind
        · try dsimp only at hg30
          refine TL.passG rfl rfl rfl rfl ?_
          refine TL.passG rfl rfl rfl rfl ?_
          refine TL.passG rfl rfl rfl rfl ?_
          refine TL.passG rfl rfl rfl rfl ?_
          refine TL.passG rfl rfl rfl rfl ?_
          refine TL.passG rfl rfl rfl rfl ?_
          refine TL.passG rfl rfl rfl rfl ?_
          refine TL.run1 (pure_pick_false rfl rfl) rfl ?_
          refine TL.run1 (pure_move rfl) rfl ?_
          refine TL.passG rfl rfl rfl rfl ?_
          refine TL.passG rfl rfl rfl rfl ?_
          refine TL.passG rfl rfl rfl rfl ?_
          refine TL.passG rfl rfl rfl rfl ?_
          refine TL.passG rfl rfl rfl rfl ?_
          refine TL.run1 (pure_pick_false rfl rfl) rfl ?_
          refine TL.run1 (pure_assign rfl) rfl ?_
          refine TL.cutEnd (by repeat (first | exact Same.refl _ _ | refine Same.put rfl ?_)) rfl ?_
          first | (simp only [decide_eq_true_eq, Bool.false_eq_true, false_iff, true_iff, iff_true, iff_false, Bool.not_eq_true]; omega) | (simp_all; done) | (simp_all; omega) | grind
      refine TC.ret ?_
      exact ret_bool rfl (by simp)
set_option maxRecDepth 100000 in
theorem PropertyChecks_spec (e : Int) (l : List (Int × Int)) : Fun Try.prog 4 [.v (.int .i64 e), .sl 2 (encP l)] (.v (.bool true)) := by
  refine Fun.enter (n := 20) (rs := [.tmp 4]) Try.func4 rfl Try.ntmps4 Try.results4 rfl (fun w F => ?_)
  have ht : (l.take 100).length ≤ 1000000 := by rw [List.length_take]; omega
  refine TC.seq ?_
  refine TC.region ?_
  refine TL.run1 (pure_assign rfl) rfl ?_
  refine TL.nil' ?_
  refine TC.seq ?_
  refine TC.region ?_
  refine TL.run1 (pure_move rfl) rfl ?_
  refine TL.run1 (pure_move rfl) rfl ?_
  first | refine TL.run1 (pure_len Ty.sl31 rfl) rfl ?_ | refine TL.run1 (pure_len_row Ty.sl31 rfl (by repeat (first | exact List.Mem.head _ | apply List.Mem.tail))) rfl ?_ | refine TL.run1 (pure_len_nil Ty.sl31 rfl) rfl ?_
  refine TL.run1 (pure_min rfl rfl) rfl ?_
  refine TL.run1 (pure_slice (l := 0) (h := min (encP l).length 100) Ty.sl31 rfl rfl (show some (D.v (.int .i64 (min ((encP l).length : Int) 100))) = some (D.v (.int .i64 ((min (encP l).length 100 : Nat) : Int))) from by rw [show (min ((encP l).length : Int) 100) = ((min (encP l).length 100 : Nat) : Int) by omega]) (by omega) (by omega)) rfl ?_
  refine TL.run1 (pure_assign rfl) rfl ?_
  refine TL.nil' ?_
  rw [show List.drop 0 (List.take (min (encP l).length 100) (encP l)) = encP (l.take 100) from by rw [List.drop_zero, encP_take, encP_len]; congr 1; rw [List.take_eq_take_iff]; omega]
  refine TC.regionCut [10, 11, 12, 13, 14, 15, 16, 17, 18, 19, 4] 4 (True) ?_ ?_
  · skip
    refine TL.run1 (pure_call (known_spec) .nil Try.call14) rfl ?_
    refine TL.run1 (pure_move rfl) rfl ?_
    first | refine TL.splitP 11 rfl (fun hg11 => ?_) (fun hg11 => ?_) | refine TL.split 11 rfl (fun hg11 => ?_) (fun hg11 => ?_)
    · try dsimp only at hg11
      refine TL.runG rfl rfl (pure_move rfl) rfl ?_
      refine TL.runG rfl rfl (pure_move rfl) rfl ?_
      refine TL.runG rfl rfl (pure_call (Check_spec _ _ ht) (.cons rfl (.cons rfl .nil)) Try.call18) rfl ?_
      refine TL.runG rfl rfl (pure_move rfl) rfl ?_
      refine TL.runG rfl rfl (pure_move rfl) rfl ?_
      refine TL.runG rfl rfl (pure_call (RCheck_spec _ _ ht) (.cons rfl (.cons rfl .nil)) Try.call19) rfl ?_
      refine TL.runG rfl rfl (pure_eql rfl rfl) rfl ?_
      refine TL.run1 (pure_pick_true rfl rfl) rfl ?_
      refine TL.run1 (pure_assign rfl) rfl ?_
      refine TL.cutEnd (by repeat (first | exact Same.refl _ _ | refine Same.put rfl ?_)) rfl ?_
      first | (simp only [decide_eq_true_eq, Bool.false_eq_true, false_iff, true_iff, iff_true, iff_false, Bool.not_eq_true]; omega) | (simp_all; done) | (simp_all; omega) | grind
    · try dsimp only at hg11
      refine TL.passG rfl rfl rfl rfl ?_
      refine TL.passG rfl rfl rfl rfl ?_
      refine TL.passG rfl rfl rfl rfl ?_
      refine TL.passG rfl rfl rfl rfl ?_
      refine TL.passG rfl rfl rfl rfl ?_
      refine TL.passG rfl rfl rfl rfl ?_
      refine TL.passG rfl rfl rfl rfl ?_
      refine TL.run1 (pure_pick_false rfl rfl) rfl ?_
      refine TL.run1 (pure_assign rfl) rfl ?_
      refine TL.cutEnd (by repeat (first | exact Same.refl _ _ | refine Same.put rfl ?_)) rfl ?_
      first | (simp only [decide_eq_true_eq, Bool.false_eq_true, false_iff, true_iff, iff_true, iff_false, Bool.not_eq_true]; omega) | (simp_all; done) | (simp_all; omega) | grind
  refine TC.ret ?_
  exact ret_bool rfl (by simp)
set_option maxRecDepth 100000 in
theorem PropertyMerges_spec (a b c : List (Int × Int)) (hla : a.length ≤ 9223372036854775807) (hlb : b.length ≤ 9223372036854775807) (hlc : c.length ≤ 9223372036854775807) : Fun Try.prog 5 [.sl 2 (encP a), .sl 2 (encP b), .sl 2 (encP c)] (.v (.bool true)) := by
  refine Fun.enter (n := 43) (rs := [.tmp 6]) Try.func5 rfl Try.ntmps5 Try.results5 rfl (fun w F => ?_)
  have h1 := ordP_len a
  have h2 := ordP_len b
  have h3 := ordP_len c
  have h4 := mergeP_len (ordP a) (ordP b)
  have h5 := mergeP_len (ordP b) (ordP c)
  have h6 := mergeP_len (mergeP (ordP a) (ordP b)) (ordP c)
  have h7 := mergeP_len (ordP a) (ordP a)
  have e1 := mergeP_eq (ordP_inc a) (ordP_inc b)
  have e2 := mergeP_assoc (ordP_inc a) (ordP_inc b) (ordP_inc c)
  have e3 := mergeP_self (ordP_inc a)
  refine TC.seq ?_
  refine TC.region ?_
  refine TL.run1 (pure_assign rfl) rfl ?_
  refine TL.nil' ?_
  refine TC.seq ?_
  refine TC.region ?_
  refine TL.run1 (pure_move rfl) rfl ?_
  first | refine TL.run1 (pure_call (ordered_spec _ hla) (.cons rfl .nil) Try.call20) rfl ?_ | refine TL.run1 (pure_call (ordered_spec _ hlb) (.cons rfl .nil) Try.call20) rfl ?_ | refine TL.run1 (pure_call (ordered_spec _ hlc) (.cons rfl .nil) Try.call20) rfl ?_
  refine TL.run1 (pure_move rfl) rfl ?_
  first | refine TL.run1 (pure_call (ordered_spec _ hla) (.cons rfl .nil) Try.call20) rfl ?_ | refine TL.run1 (pure_call (ordered_spec _ hlb) (.cons rfl .nil) Try.call20) rfl ?_ | refine TL.run1 (pure_call (ordered_spec _ hlc) (.cons rfl .nil) Try.call20) rfl ?_
  refine TL.run1 (pure_move rfl) rfl ?_
  first | refine TL.run1 (pure_call (ordered_spec _ hla) (.cons rfl .nil) Try.call20) rfl ?_ | refine TL.run1 (pure_call (ordered_spec _ hlb) (.cons rfl .nil) Try.call20) rfl ?_ | refine TL.run1 (pure_call (ordered_spec _ hlc) (.cons rfl .nil) Try.call20) rfl ?_
  refine TL.run1 (pure_assign rfl) rfl ?_
  refine TL.run1 (pure_assign rfl) rfl ?_
  refine TL.run1 (pure_assign rfl) rfl ?_
  refine TL.nil' ?_
  refine TC.seq ?_
  refine TC.region ?_
  refine TL.run1 (pure_move rfl) rfl ?_
  refine TL.run1 (pure_move rfl) rfl ?_
  refine TL.run1 (pure_call (Merge_spec _ _ (by omega) (by omega)) (.cons rfl (.cons rfl .nil)) Try.call21) rfl ?_
  refine TL.run1 (pure_assign rfl) rfl ?_
  refine TL.nil' ?_
  refine TC.regionCut [17, 18, 19, 20, 21, 22, 23, 24, 25, 26, 27, 28, 29, 30, 31, 32, 33, 34, 35, 36, 37, 38, 39, 40, 41, 42, 6] 6 (True) ?_ ?_
  · skip
    refine TL.run1 (pure_call (known_spec) .nil Try.call14) rfl ?_
    refine TL.run1 (pure_move rfl) rfl ?_
    first | refine TL.splitP 18 rfl (fun hg18 => ?_) (fun hg18 => ?_) | refine TL.split 18 rfl (fun hg18 => ?_) (fun hg18 => ?_)
    · try dsimp only at hg18
      refine TL.runG rfl rfl (pure_move rfl) rfl ?_
      refine TL.runG rfl rfl (pure_move rfl) rfl ?_
      refine TL.runG rfl rfl (pure_move rfl) rfl ?_
      refine TL.runG rfl rfl (pure_call (RMerge_spec _ _ (by omega)) (.cons rfl (.cons rfl .nil)) Try.call23) rfl ?_
      refine TL.runG rfl rfl (pure_call (REqual_spec _ _ (by omega)) (.cons rfl (.cons rfl .nil)) Try.call22) rfl ?_
      refine TL.run1 (pure_pick_true rfl rfl) rfl ?_
      refine TL.run1 (pure_move rfl) rfl ?_
      first | refine TL.splitP 25 rfl (fun hg25 => ?_) (fun hg25 => ?_) | refine TL.split 25 rfl (fun hg25 => ?_) (fun hg25 => ?_)
      · try dsimp only at hg25
        refine TL.runG rfl rfl (pure_move rfl) rfl ?_
        refine TL.runG rfl rfl (pure_move rfl) rfl ?_
        refine TL.runG rfl rfl (pure_call (Merge_spec _ _ (by omega) (by omega)) (.cons rfl (.cons rfl .nil)) Try.call21) rfl ?_
        refine TL.runG rfl rfl (pure_move rfl) rfl ?_
        refine TL.runG rfl rfl (pure_move rfl) rfl ?_
        refine TL.runG rfl rfl (pure_move rfl) rfl ?_
        refine TL.runG rfl rfl (pure_call (Merge_spec _ _ (by omega) (by omega)) (.cons rfl (.cons rfl .nil)) Try.call21) rfl ?_
        refine TL.runG rfl rfl (pure_call (Merge_spec _ _ (by omega) (by omega)) (.cons rfl (.cons rfl .nil)) Try.call21) rfl ?_
        refine TL.runG rfl rfl (pure_call (REqual_spec _ _ (by omega)) (.cons rfl (.cons rfl .nil)) Try.call22) rfl ?_
        refine TL.run1 (pure_pick_true rfl rfl) rfl ?_
        refine TL.run1 (pure_move rfl) rfl ?_
        first | refine TL.splitP 36 rfl (fun hg36 => ?_) (fun hg36 => ?_) | refine TL.split 36 rfl (fun hg36 => ?_) (fun hg36 => ?_)
        · try dsimp only at hg36
          refine TL.runG rfl rfl (pure_move rfl) rfl ?_
          refine TL.runG rfl rfl (pure_move rfl) rfl ?_
          refine TL.runG rfl rfl (pure_call (Merge_spec _ _ (by omega) (by omega)) (.cons rfl (.cons rfl .nil)) Try.call21) rfl ?_
          refine TL.runG rfl rfl (pure_move rfl) rfl ?_
          refine TL.runG rfl rfl (pure_call (REqual_spec _ _ (by omega)) (.cons rfl (.cons rfl .nil)) Try.call22) rfl ?_
          refine TL.run1 (pure_pick_true rfl rfl) rfl ?_
          refine TL.run1 (pure_assign rfl) rfl ?_
          refine TL.cutEnd (by repeat (first | exact Same.refl _ _ | refine Same.put rfl ?_)) rfl ?_
          first | (simp only [decide_eq_true_eq, Bool.false_eq_true, false_iff, true_iff, iff_true, iff_false, Bool.not_eq_true]; omega) | (simp_all; done) | (simp_all; omega) | grind
        · try dsimp only at hg36
          refine TL.passG rfl rfl rfl rfl ?_
          refine TL.passG rfl rfl rfl rfl ?_
          refine TL.passG rfl rfl rfl rfl ?_
          refine TL.passG rfl rfl rfl rfl ?_
          refine TL.passG rfl rfl rfl rfl ?_
          refine TL.run1 (pure_pick_false rfl rfl) rfl ?_
          refine TL.run1 (pure_assign rfl) rfl ?_
          refine TL.cutEnd (by repeat (first | exact Same.refl _ _ | refine Same.put rfl ?_)) rfl ?_
          first | (simp only [decide_eq_true_eq, Bool.false_eq_true, false_iff, true_iff, iff_true, iff_false, Bool.not_eq_true]; omega) | (simp_all; done) | (simp_all; omega) | grind
      · try dsimp only at hg25
        refine TL.passG rfl rfl rfl rfl ?_
        refine TL.passG rfl rfl rfl rfl ?_
        refine TL.passG rfl rfl rfl rfl ?_
        refine TL.passG rfl rfl rfl rfl ?_
        refine TL.passG rfl rfl rfl rfl ?_
        refine TL.passG rfl rfl rfl rfl ?_
        refine TL.passG rfl rfl rfl rfl ?_
        refine TL.passG rfl rfl rfl rfl ?_
        refine TL.passG rfl rfl rfl rfl ?_
        refine TL.run1 (pure_pick_false rfl rfl) rfl ?_
        refine TL.run1 (pure_move rfl) rfl ?_
        refine TL.passG rfl rfl rfl rfl ?_
        refine TL.passG rfl rfl rfl rfl ?_
        refine TL.passG rfl rfl rfl rfl ?_
        refine TL.passG rfl rfl rfl rfl ?_
        refine TL.passG rfl rfl rfl rfl ?_
        refine TL.run1 (pure_pick_false rfl rfl) rfl ?_
        refine TL.run1 (pure_assign rfl) rfl ?_
        refine TL.cutEnd (by repeat (first | exact Same.refl _ _ | refine Same.put rfl ?_)) rfl ?_
        first | (simp only [decide_eq_true_eq, Bool.false_eq_true, false_iff, true_iff, iff_true, iff_false, Bool.not_eq_true]; omega) | (simp_all; done) | (simp_all; omega) | grind
    · try dsimp only at hg18
      refine TL.passG rfl rfl rfl rfl ?_
      refine TL.passG rfl rfl rfl rfl ?_
      refine TL.passG rfl rfl rfl rfl ?_
      refine TL.passG rfl rfl rfl rfl ?_
      refine TL.passG rfl rfl rfl rfl ?_
      refine TL.run1 (pure_pick_false rfl rfl) rfl ?_
      refine TL.run1 (pure_move rfl) rfl ?_
      refine TL.passG rfl rfl rfl rfl ?_
      refine TL.passG rfl rfl rfl rfl ?_
      refine TL.passG rfl rfl rfl rfl ?_
      refine TL.passG rfl rfl rfl rfl ?_
      refine TL.passG rfl rfl rfl rfl ?_
      refine TL.passG rfl rfl rfl rfl ?_
      refine TL.passG rfl rfl rfl rfl ?_
      refine TL.passG rfl rfl rfl rfl ?_
      refine TL.passG rfl rfl rfl rfl ?_
      refine TL.run1 (pure_pick_false rfl rfl) rfl ?_
      refine TL.run1 (pure_move rfl) rfl ?_
      refine TL.passG rfl rfl rfl rfl ?_
      refine TL.passG rfl rfl rfl rfl ?_
      refine TL.passG rfl rfl rfl rfl ?_
      refine TL.passG rfl rfl rfl rfl ?_
      refine TL.passG rfl rfl rfl rfl ?_
      refine TL.run1 (pure_pick_false rfl rfl) rfl ?_
      refine TL.run1 (pure_assign rfl) rfl ?_
      refine TL.cutEnd (by repeat (first | exact Same.refl _ _ | refine Same.put rfl ?_)) rfl ?_
      first | (simp only [decide_eq_true_eq, Bool.false_eq_true, false_iff, true_iff, iff_true, iff_false, Bool.not_eq_true]; omega) | (simp_all; done) | (simp_all; omega) | grind
  refine TC.ret ?_
  exact ret_bool rfl (by simp)
set_option maxRecDepth 100000 in
theorem PropertyNames_spec (g : Int) (name : ByteArray) : Fun Try.prog 6 [.v (.int .i64 g), .v (.string name)] (.v (.bool true)) := by
  refine Fun.enter (n := 60) (rs := [.tmp 4]) Try.func6 rfl Try.ntmps6 Try.results6 rfl (fun w F => ?_)
  refine TC.seq ?_
  refine TC.region ?_
  refine TL.run1 (pure_assign rfl) rfl ?_
  refine TL.nil' ?_
  refine TC.seq ?_
  refine TC.region ?_
  refine TL.run1 (pure_move rfl) rfl ?_
  refine TL.run1 (pure_call (Keys_spec _) (.cons rfl .nil) Try.call24) rfl ?_
  refine TL.run1 (pure_move rfl) rfl ?_
  refine TL.run1 (pure_call (RKeys_spec _) (.cons rfl .nil) Try.call25) rfl ?_
  refine TL.run1 (pure_assign rfl) rfl ?_
  refine TL.run1 (pure_assign rfl) rfl ?_
  refine TL.nil' ?_
  refine TC.seq ?_
  refine TC.region ?_
  refine TL.run1 (pure_move rfl) rfl ?_
  refine TL.run1 (pure_call (Find_spec _) (.cons rfl .nil) Try.call26) rfl ?_
  refine TL.run1 (pure_move rfl) rfl ?_
  refine TL.run1 (pure_extract rfl rfl) rfl ?_
  refine TL.run1 (pure_extract rfl rfl) rfl ?_
  refine TL.run1 (pure_assign rfl) rfl ?_
  refine TL.run1 (pure_assign rfl) rfl ?_
  refine TL.nil' ?_
  refine TC.seq ?_
  refine TC.regionCut [19, 20, 21, 22, 23, 24, 25, 26, 27] 27 (False) ?_ ?_
  · skip
    refine TL.run1 (pure_call (known_spec) .nil Try.call14) rfl ?_
    refine TL.run1 (pure_not rfl) rfl ?_
    refine TL.run1 (pure_move rfl) rfl ?_
    first | refine TL.splitP 21 rfl (fun hg21 => ?_) (fun hg21 => ?_) | refine TL.split 21 rfl (fun hg21 => ?_) (fun hg21 => ?_)
    · try dsimp only at hg21
      refine TL.passG rfl rfl rfl rfl ?_
      refine TL.passG rfl rfl rfl rfl ?_
      refine TL.passG rfl rfl rfl rfl ?_
      refine TL.passG rfl rfl rfl rfl ?_
      refine TL.passG rfl rfl rfl rfl ?_
      refine TL.run1 (pure_pick_true rfl rfl) rfl ?_
      refine TL.cutEnd (by repeat (first | exact Same.refl _ _ | refine Same.put rfl ?_)) rfl ?_
      first | (simp only [decide_eq_true_eq, Bool.false_eq_true, false_iff, true_iff, iff_true, iff_false, Bool.not_eq_true]; omega) | (simp_all; done) | (simp_all; omega) | grind
    · try dsimp only at hg21
      refine TL.runG rfl rfl (pure_move rfl) rfl ?_
      first | refine TL.runG rfl rfl (pure_len Ty.sl38 rfl) rfl ?_ | refine TL.runG rfl rfl (pure_len_row Ty.sl38 rfl (by repeat (first | exact List.Mem.head _ | apply List.Mem.tail))) rfl ?_ | refine TL.runG rfl rfl (pure_len_nil Ty.sl38 rfl) rfl ?_
      refine TL.runG rfl rfl (pure_move rfl) rfl ?_
      first | refine TL.runG rfl rfl (pure_len Ty.sl38 rfl) rfl ?_ | refine TL.runG rfl rfl (pure_len_row Ty.sl38 rfl (by repeat (first | exact List.Mem.head _ | apply List.Mem.tail))) rfl ?_ | refine TL.runG rfl rfl (pure_len_nil Ty.sl38 rfl) rfl ?_
      refine TL.runG rfl rfl (pure_neq rfl rfl) rfl ?_
      refine TL.run1 (pure_pick_false rfl rfl) rfl ?_
      refine TL.cutEnd (by repeat (first | exact Same.refl _ _ | refine Same.put rfl ?_)) rfl ?_
      first | (simp only [decide_eq_true_eq, Bool.false_eq_true, false_iff, true_iff, iff_true, iff_false, Bool.not_eq_true]; omega) | (simp_all; done) | (simp_all; omega) | grind
  first | refine TC.condD rfl (fun hc27 => ?_) (fun hc27 => ?_) | refine TC.condN rfl (fun hc27 => ?_) (fun hc27 => ?_) | refine TC.cond rfl (fun hc27 => ?_) (fun hc27 => ?_)
  · try dsimp only at hc27
    all_goals exact absurd hc27 id
  · try dsimp only at hc27
    refine TC.skip' ?_
    refine TC.seq ?_
    refine TC.seq ?_
    refine TC.region ?_
    refine TL.run1 (pure_assign rfl) rfl ?_
    refine TL.nil' ?_
    refine TC.block ?_
    refine TC.loopX (X := Int) (fun i => [(1, .v (.string name)), (5, .sl 1 (encI (keysG g))), (6, .sl 1 (encI (keysG g))), (7, .v (.int .i64 (namedK name))), (8, .v (.int .i64 (if namedK name = 0 then 4 else 0))), (9, .v (.int .i64 i))]) (fun i => []) (fun i => (0 ≤ i) ∧ (i ≤ (keysG g).length)) (fun i => ((keysG g).length - i).toNat) (0) ⟨by skip; repeat (first | exact Agree.nil | refine Agree.cons rfl ?_), by skip; repeat (first | exact List.nil_sublist _ | exact List.Sublist.refl _ | apply List.Sublist.cons_cons | apply List.Sublist.cons)⟩ ?_ ?_
    · skip
      exact ⟨by omega, by omega⟩
    intro i
    rintro ⟨h0, h1⟩
    show TC _ _ _ (Env.of [(1, .v (.string name)), (5, .sl 1 (encI (keysG g))), (6, .sl 1 (encI (keysG g))), (7, .v (.int .i64 (namedK name))), (8, .v (.int .i64 (if namedK name = 0 then 4 else 0))), (9, .v (.int .i64 i))]) []
    have hk := encI_len (keysG g)
    have hkl : (keysG g).length ≤ 45 := keysTo_len g 45
    refine TC.seq ?_
    refine TC.seq ?_
    refine TC.region ?_
    refine TL.run1 (pure_move rfl) rfl ?_
    refine TL.run1 (pure_move rfl) rfl ?_
    first | refine TL.run1 (pure_len Ty.sl38 rfl) rfl ?_ | refine TL.run1 (pure_len_row Ty.sl38 rfl (by repeat (first | exact List.Mem.head _ | apply List.Mem.tail))) rfl ?_ | refine TL.run1 (pure_len_nil Ty.sl38 rfl) rfl ?_
    refine TL.run1 (pure_lss rfl rfl) rfl ?_
    refine TL.nil' ?_
    first | refine TC.condD rfl (fun hc31 => ?_) (fun hc31 => ?_) | refine TC.condN rfl (fun hc31 => ?_) (fun hc31 => ?_) | refine TC.cond rfl (fun hc31 => ?_) (fun hc31 => ?_)
    · try dsimp only at hc31
      refine TC.skip' ?_
      refine TC.seq ?_
      refine TC.block ?_
      refine TC.seq ?_
      have hrow := encI_get (keysG g) i h0 (by omega)
      refine TC.draw Ty.follows (by kernel_rfl) ?_
      refine TD.run1 (pure_move rfl) rfl ?_
      refine TD.run1 (pure_move rfl) rfl ?_
      refine TD.run1 (pure_indexAddr Ty.sl38 rfl rfl (by omega) (by assumption) (List.cons_ne_nil _ _)) rfl ?_
      first | refine TD.run1 (pure_load1 Ty.one3 rfl) rfl ?_ | refine TD.run1 (pure_load1_own Ty.one3 rfl (by repeat (first | exact List.Mem.head _ | apply List.Mem.tail)) (by repeat (first | exact DropR.zero _ | apply DropR.succ))) rfl ?_
      refine TD.run1 (pure_move rfl) rfl ?_
      refine TD.run1 (pure_move rfl) rfl ?_
      refine TD.run1 (pure_indexAddr Ty.sl38 rfl rfl (by omega) (by assumption) (List.cons_ne_nil _ _)) rfl ?_
      first | refine TD.run1 (pure_load1 Ty.one3 rfl) rfl ?_ | refine TD.run1 (pure_load1_own Ty.one3 rfl (by repeat (first | exact List.Mem.head _ | apply List.Mem.tail)) (by repeat (first | exact DropR.zero _ | apply DropR.succ))) rfl ?_
      refine TD.run1 (pure_neq rfl rfl) rfl ?_
      refine TD.nil' ?_
      first | refine TC.condD rfl (fun hc42 => ?_) (fun hc42 => ?_) | refine TC.condN rfl (fun hc42 => ?_) (fun hc42 => ?_) | refine TC.cond rfl (fun hc42 => ?_) (fun hc42 => ?_)
      · try dsimp only at hc42
        all_goals exact absurd rfl hc42
      · try dsimp only at hc42
        refine TC.skip ?_
        refine block_normal ?_
        refine then_normal ?_
        refine TC.region ?_
        refine TL.run1 (pure_move rfl) rfl ?_
        refine TL.run1 (pure_add rfl rfl (mkI64 (by omega) (by omega))) rfl ?_
        refine TL.run1 (pure_assign rfl) rfl ?_
        refine TL.nil ?_
        refine loop_next (i + 1) ⟨by repeat (first | exact Agree.nil | refine Agree.cons rfl ?_), by repeat (first | exact List.nil_sublist _ | exact List.Sublist.refl _ | apply List.Sublist.cons_cons | apply List.Sublist.cons)⟩ ⟨by omega, by omega⟩ (by omega)
    · try dsimp only at hc31
      refine TC.exit ?_
      refine then_exit ?_
      refine loop_exit ?_
      refine block_here ?_
      refine then_normal ?_
      refine TC.seq ?_
      refine TC.seq ?_
      refine TC.region ?_
      refine TL.run1 (pure_move rfl) rfl ?_
      refine TL.run1 (pure_call (Named_spec _) (.cons rfl .nil) Try.call27) rfl ?_
      refine TL.run1 (pure_eql rfl rfl) rfl ?_
      refine TL.nil' ?_
      first | refine TC.condD rfl (fun hc45 => ?_) (fun hc45 => ?_) | refine TC.condN rfl (fun hc45 => ?_) (fun hc45 => ?_) | refine TC.cond rfl (fun hc45 => ?_) (fun hc45 => ?_)
      · try dsimp only at hc45
        refine TC.regionCut [46, 47, 48, 49, 50, 51, 4] 4 (True) ?_ ?_
        · skip
          refine TL.run1 (pure_move rfl) rfl ?_
          refine TL.run1 (pure_eql rfl rfl) rfl ?_
          refine TL.run1 (pure_move rfl) rfl ?_
          first | refine TL.splitP 48 rfl (fun hg48 => ?_) (fun hg48 => ?_) | refine TL.split 48 rfl (fun hg48 => ?_) (fun hg48 => ?_)
          · try dsimp only at hg48
            refine TL.runG rfl rfl (pure_move rfl) rfl ?_
            refine TL.runG rfl rfl (pure_eql rfl rfl) rfl ?_
            refine TL.run1 (pure_pick_true rfl rfl) rfl ?_
            refine TL.run1 (pure_assign rfl) rfl ?_
            refine TL.cutEnd (by repeat (first | exact Same.refl _ _ | refine Same.put rfl ?_)) rfl ?_
            first | (simp only [decide_eq_true_eq, Bool.false_eq_true, false_iff, true_iff, iff_true, iff_false, Bool.not_eq_true]; omega) | (simp_all; done) | (simp_all; omega) | grind
          · try dsimp only at hg48
            refine TL.passG rfl rfl rfl rfl ?_
            refine TL.passG rfl rfl rfl rfl ?_
            refine TL.run1 (pure_pick_false rfl rfl) rfl ?_
            refine TL.run1 (pure_assign rfl) rfl ?_
            refine TL.cutEnd (by repeat (first | exact Same.refl _ _ | refine Same.put rfl ?_)) rfl ?_
            first | (simp only [decide_eq_true_eq, Bool.false_eq_true, false_iff, true_iff, iff_true, iff_false, Bool.not_eq_true]; omega) | (simp_all; done) | (simp_all; omega) | grind
        refine TC.ret ?_
        refine then_ret ?_
        exact ret_bool rfl (by simp)
      · try dsimp only at hc45
        refine TC.skip' ?_
        refine TC.regionCut [52, 53, 54, 55, 56, 57, 58, 59, 4] 4 (True) ?_ ?_
        · skip
          refine TL.run1 (pure_move rfl) rfl ?_
          refine TL.run1 (pure_move rfl) rfl ?_
          refine TL.run1 (pure_call (Named_spec _) (.cons rfl .nil) Try.call27) rfl ?_
          refine TL.run1 (pure_eql rfl rfl) rfl ?_
          refine TL.run1 (pure_move rfl) rfl ?_
          first | refine TL.splitP 56 rfl (fun hg56 => ?_) (fun hg56 => ?_) | refine TL.split 56 rfl (fun hg56 => ?_) (fun hg56 => ?_)
          · try dsimp only at hg56
            refine TL.runG rfl rfl (pure_move rfl) rfl ?_
            refine TL.runG rfl rfl (pure_eql rfl rfl) rfl ?_
            refine TL.run1 (pure_pick_true rfl rfl) rfl ?_
            refine TL.run1 (pure_assign rfl) rfl ?_
            refine TL.cutEnd (by repeat (first | exact Same.refl _ _ | refine Same.put rfl ?_)) rfl ?_
            first | (simp only [decide_eq_true_eq, Bool.false_eq_true, false_iff, true_iff, iff_true, iff_false, Bool.not_eq_true]; omega) | (simp_all; done) | (simp_all; omega) | grind
          · try dsimp only at hg56
            refine TL.passG rfl rfl rfl rfl ?_
            refine TL.passG rfl rfl rfl rfl ?_
            refine TL.run1 (pure_pick_false rfl rfl) rfl ?_
            refine TL.run1 (pure_assign rfl) rfl ?_
            refine TL.cutEnd (by repeat (first | exact Same.refl _ _ | refine Same.put rfl ?_)) rfl ?_
            first | (simp only [decide_eq_true_eq, Bool.false_eq_true, false_iff, true_iff, iff_true, iff_false, Bool.not_eq_true]; omega) | (simp_all; done) | (simp_all; omega) | grind
        refine TC.ret ?_
        exact ret_bool rfl (by simp)
set_option maxRecDepth 100000 in
theorem PropertyGets_spec (l : List (Int × Int)) (key : Int) (hla : l.length ≤ 9223372036854775807) : Fun Try.prog 7 [.sl 2 (encP l), .v (.int .i64 key)] (.v (.bool true)) := by
  refine Fun.enter (n := 65) (rs := [.tmp 4]) Try.func7 rfl Try.ntmps7 Try.results7 rfl (fun w F => ?_)
  have hi := ordP_inc l
  have hl : (ordP l).length ≤ 1000000 := by have := ordP_len l; omega
  have hin := in_look hi key
  have hg0 := getP_look (ordP l) key 0
  have hgs := getP_look (ordP l) key (findK key).std
  refine TC.seq ?_
  refine TC.region ?_
  refine TL.run1 (pure_assign rfl) rfl ?_
  refine TL.nil' ?_
  refine TC.seq ?_
  refine TC.region ?_
  refine TL.run1 (pure_move rfl) rfl ?_
  refine TL.run1 (pure_call (ordered_spec _ hla) (.cons rfl .nil) Try.call20) rfl ?_
  refine TL.run1 (pure_assign rfl) rfl ?_
  refine TL.nil' ?_
  refine TC.seq ?_
  refine TC.region ?_
  refine TL.run1 (pure_move rfl) rfl ?_
  refine TL.run1 (pure_move rfl) rfl ?_
  refine TL.run1 (pure_call (getPr_spec _ _ hi hl) (.cons rfl (.cons rfl .nil)) Try.call28) rfl ?_
  refine TL.run1 (pure_move rfl) rfl ?_
  refine TL.run1 (pure_extract rfl rfl) rfl ?_
  refine TL.run1 (pure_extract rfl rfl) rfl ?_
  refine TL.run1 (pure_assign rfl) rfl ?_
  refine TL.run1 (pure_assign rfl) rfl ?_
  refine TL.nil' ?_
  refine TC.seq ?_
  refine TC.region ?_
  refine TL.run1 (pure_move rfl) rfl ?_
  refine TL.run1 (pure_move rfl) rfl ?_
  refine TL.run1 (pure_call (RGet_spec _ _ hl) (.cons rfl (.cons rfl .nil)) Try.call29) rfl ?_
  refine TL.run1 (pure_move rfl) rfl ?_
  refine TL.run1 (pure_extract rfl rfl) rfl ?_
  refine TL.run1 (pure_extract rfl rfl) rfl ?_
  refine TL.run1 (pure_assign rfl) rfl ?_
  refine TL.run1 (pure_assign rfl) rfl ?_
  refine TL.nil' ?_
  refine TC.seq ?_
  refine TC.region ?_
  refine TL.run1 (pure_move rfl) rfl ?_
  refine TL.run1 (pure_call (Of_spec _) (.cons rfl .nil) Try.call13) rfl ?_
  refine TL.run1 (pure_move rfl) rfl ?_
  refine TL.run1 (pure_extract rfl rfl) rfl ?_
  refine TL.run1 (pure_extract rfl rfl) rfl ?_
  refine TL.alloc Ty.zero23 rfl (fun g9 => ?_)
  refine TL.store rfl rfl (.agg _) Try.sizeOf23 rfl (by repeat (first | exact UpdR.here _ | apply UpdR.there)) (by repeat (first | exact PutR.nil _ | apply PutR.here | apply PutR.skip)) ?_
  refine TL.run1 (pure_assign rfl) rfl ?_
  refine TL.nil' ?_
  refine TC.seq ?_
  refine TC.seq ?_
  refine TC.region ?_
  refine TL.run1 (pure_move rfl) rfl ?_
  refine TL.run1 (pure_not rfl) rfl ?_
  refine TL.nil' ?_
  first | refine TC.condD rfl (fun hc31 => ?_) (fun hc31 => ?_) | refine TC.condN rfl (fun hc31 => ?_) (fun hc31 => ?_) | refine TC.cond rfl (fun hc31 => ?_) (fun hc31 => ?_)
  · try dsimp only at hc31
    have hno : lookP (ordP l) key = none := by simpa using hc31
    rw [hno] at hin hg0 hgs
    have hin2 := of_decide_eq_false hin
    clear hc31
    refine TC.drawCut [32, 33, 34, 35, 36, 37, 38, 39, 40, 41, 42, 43, 44, 45, 46, 47, 48, 4] 4 (True) Ty.follows (by kernel_rfl) ?_ ?_
    · skip
      refine TD.run1 (pure_call (known_spec) .nil Try.call14) rfl ?_
      refine TD.run1 (pure_move rfl) rfl ?_
      first | refine TD.splitP 33 rfl (fun hg33 => ?_) (fun hg33 => ?_) | refine TD.split 33 rfl (fun hg33 => ?_) (fun hg33 => ?_)
      · try dsimp only at hg33
        refine TD.runG rfl rfl (pure_move rfl) rfl ?_
        refine TD.runG rfl rfl (pure_not rfl) rfl ?_
        refine TD.run1 (pure_pick_true rfl rfl) rfl ?_
        refine TD.run1 (pure_move rfl) rfl ?_
        first | refine TD.splitP 37 rfl (fun hg37 => ?_) (fun hg37 => ?_) | refine TD.split 37 rfl (fun hg37 => ?_) (fun hg37 => ?_)
        · try dsimp only at hg37
          refine TD.runG rfl rfl (pure_move rfl) rfl ?_
          refine TD.runG rfl rfl (pure_eql rfl rfl) rfl ?_
          refine TD.run1 (pure_pick_true rfl rfl) rfl ?_
          refine TD.run1 (pure_move rfl) rfl ?_
          first | refine TD.splitP 41 rfl (fun hg41 => ?_) (fun hg41 => ?_) | refine TD.split 41 rfl (fun hg41 => ?_) (fun hg41 => ?_)
          · try dsimp only at hg41
            refine TD.runG rfl rfl (pure_move rfl) rfl ?_
            refine TD.runG rfl rfl (pure_move rfl) rfl ?_
            refine TD.runG rfl rfl (pure_call (value_spec _ _ hi hl) (.cons rfl (.cons rfl .nil)) Try.call30) rfl ?_
            first | refine TD.runG rfl rfl (pure_fieldAddr Ty.f23_4 rfl (.succ (.succ (.succ (.succ (.zero _))))) (List.cons_ne_nil _ _)) rfl ?_ | refine TD.runG rfl rfl (pure_fieldAddr_own Ty.f23_4 rfl) rfl ?_
            first | refine TD.runG rfl rfl (pure_load1 Ty.one3 rfl) rfl ?_ | refine TD.runG rfl rfl (pure_load1_own Ty.one3 rfl (by repeat (first | exact List.Mem.head _ | apply List.Mem.tail)) (by repeat (first | exact DropR.zero _ | apply DropR.succ))) rfl ?_
            refine TD.runG rfl rfl (pure_eql rfl rfl) rfl ?_
            refine TD.run1 (pure_pick_true rfl rfl) rfl ?_
            refine TD.run1 (pure_assign rfl) rfl ?_
            refine TD.cutEnd (by repeat (first | exact Same.refl _ _ | refine Same.put rfl ?_)) rfl ?_
            first | (simp only [decide_eq_true_eq, Bool.false_eq_true, false_iff, true_iff, iff_true, iff_false, Bool.not_eq_true]; omega) | (simp_all; done) | (simp_all; omega) | grind
          · try dsimp only at hg41
            refine TD.passG rfl rfl rfl rfl ?_
            refine TD.passG rfl rfl rfl rfl ?_
            refine TD.passG rfl rfl rfl rfl ?_
            refine TD.passG rfl rfl rfl rfl ?_
            refine TD.passG rfl rfl rfl rfl ?_
            refine TD.passG rfl rfl rfl rfl ?_
            refine TD.run1 (pure_pick_false rfl rfl) rfl ?_
            refine TD.run1 (pure_assign rfl) rfl ?_
            refine TD.cutEnd (by repeat (first | exact Same.refl _ _ | refine Same.put rfl ?_)) rfl ?_
            first | (simp only [decide_eq_true_eq, Bool.false_eq_true, false_iff, true_iff, iff_true, iff_false, Bool.not_eq_true]; omega) | (simp_all; done) | (simp_all; omega) | grind
        · try dsimp only at hg37
          refine TD.passG rfl rfl rfl rfl ?_
          refine TD.passG rfl rfl rfl rfl ?_
          refine TD.run1 (pure_pick_false rfl rfl) rfl ?_
          refine TD.run1 (pure_move rfl) rfl ?_
          refine TD.passG rfl rfl rfl rfl ?_
          refine TD.passG rfl rfl rfl rfl ?_
          refine TD.passG rfl rfl rfl rfl ?_
          refine TD.passG rfl rfl rfl rfl ?_
          refine TD.passG rfl rfl rfl rfl ?_
          refine TD.passG rfl rfl rfl rfl ?_
          refine TD.run1 (pure_pick_false rfl rfl) rfl ?_
          refine TD.run1 (pure_assign rfl) rfl ?_
          refine TD.cutEnd (by repeat (first | exact Same.refl _ _ | refine Same.put rfl ?_)) rfl ?_
          first | (simp only [decide_eq_true_eq, Bool.false_eq_true, false_iff, true_iff, iff_true, iff_false, Bool.not_eq_true]; omega) | (simp_all; done) | (simp_all; omega) | grind
      · try dsimp only at hg33
        refine TD.passG rfl rfl rfl rfl ?_
        refine TD.passG rfl rfl rfl rfl ?_
        refine TD.run1 (pure_pick_false rfl rfl) rfl ?_
        refine TD.run1 (pure_move rfl) rfl ?_
        refine TD.passG rfl rfl rfl rfl ?_
        refine TD.passG rfl rfl rfl rfl ?_
        refine TD.run1 (pure_pick_false rfl rfl) rfl ?_
        refine TD.run1 (pure_move rfl) rfl ?_
        refine TD.passG rfl rfl rfl rfl ?_
        refine TD.passG rfl rfl rfl rfl ?_
        refine TD.passG rfl rfl rfl rfl ?_
        refine TD.passG rfl rfl rfl rfl ?_
        refine TD.passG rfl rfl rfl rfl ?_
        refine TD.passG rfl rfl rfl rfl ?_
        refine TD.run1 (pure_pick_false rfl rfl) rfl ?_
        refine TD.run1 (pure_assign rfl) rfl ?_
        refine TD.cutEnd (by repeat (first | exact Same.refl _ _ | refine Same.put rfl ?_)) rfl ?_
        first | (simp only [decide_eq_true_eq, Bool.false_eq_true, false_iff, true_iff, iff_true, iff_false, Bool.not_eq_true]; omega) | (simp_all; done) | (simp_all; omega) | grind
    refine TC.ret ?_
    refine then_ret ?_
    exact ret_bool rfl (by simp)
  · try dsimp only at hc31
    obtain ⟨x, hx⟩ : ∃ x, lookP (ordP l) key = some x := Option.isSome_iff_exists.1 (by simpa using hc31)
    rw [hx] at hin hg0 hgs
    have hin2 := of_decide_eq_true hin
    refine TC.skip' ?_
    refine TC.regionCut [49, 50, 51, 52, 53, 54, 55, 56, 57, 58, 59, 60, 61, 62, 63, 64, 4] 4 (True) ?_ ?_
    · skip
      refine TL.run1 (pure_call (known_spec) .nil Try.call14) rfl ?_
      refine TL.run1 (pure_move rfl) rfl ?_
      first | refine TL.splitP 50 rfl (fun hg50 => ?_) (fun hg50 => ?_) | refine TL.split 50 rfl (fun hg50 => ?_) (fun hg50 => ?_)
      · try dsimp only at hg50
        refine TL.runG rfl rfl (pure_move rfl) rfl ?_
        refine TL.run1 (pure_pick_true rfl rfl) rfl ?_
        refine TL.run1 (pure_move rfl) rfl ?_
        first | refine TL.splitP 53 rfl (fun hg53 => ?_) (fun hg53 => ?_) | refine TL.split 53 rfl (fun hg53 => ?_) (fun hg53 => ?_)
        · try dsimp only at hg53
          refine TL.runG rfl rfl (pure_move rfl) rfl ?_
          refine TL.runG rfl rfl (pure_move rfl) rfl ?_
          refine TL.runG rfl rfl (pure_eql rfl rfl) rfl ?_
          refine TL.run1 (pure_pick_true rfl rfl) rfl ?_
          refine TL.run1 (pure_move rfl) rfl ?_
          first | refine TL.splitP 58 rfl (fun hg58 => ?_) (fun hg58 => ?_) | refine TL.split 58 rfl (fun hg58 => ?_) (fun hg58 => ?_)
          · try dsimp only at hg58
            refine TL.runG rfl rfl (pure_move rfl) rfl ?_
            refine TL.runG rfl rfl (pure_move rfl) rfl ?_
            refine TL.runG rfl rfl (pure_call (value_spec _ _ hi hl) (.cons rfl (.cons rfl .nil)) Try.call30) rfl ?_
            refine TL.runG rfl rfl (pure_move rfl) rfl ?_
            refine TL.runG rfl rfl (pure_eql rfl rfl) rfl ?_
            refine TL.run1 (pure_pick_true rfl rfl) rfl ?_
            refine TL.run1 (pure_assign rfl) rfl ?_
            refine TL.cutEnd (by repeat (first | exact Same.refl _ _ | refine Same.put rfl ?_)) rfl ?_
            first | (simp only [decide_eq_true_eq, Bool.false_eq_true, false_iff, true_iff, iff_true, iff_false, Bool.not_eq_true]; omega) | (simp_all; done) | (simp_all; omega) | grind
          · try dsimp only at hg58
            refine TL.passG rfl rfl rfl rfl ?_
            refine TL.passG rfl rfl rfl rfl ?_
            refine TL.passG rfl rfl rfl rfl ?_
            refine TL.passG rfl rfl rfl rfl ?_
            refine TL.passG rfl rfl rfl rfl ?_
            refine TL.run1 (pure_pick_false rfl rfl) rfl ?_
            refine TL.run1 (pure_assign rfl) rfl ?_
            refine TL.cutEnd (by repeat (first | exact Same.refl _ _ | refine Same.put rfl ?_)) rfl ?_
            first | (simp only [decide_eq_true_eq, Bool.false_eq_true, false_iff, true_iff, iff_true, iff_false, Bool.not_eq_true]; omega) | (simp_all; done) | (simp_all; omega) | grind
        · try dsimp only at hg53
          refine TL.passG rfl rfl rfl rfl ?_
          refine TL.passG rfl rfl rfl rfl ?_
          refine TL.passG rfl rfl rfl rfl ?_
          refine TL.run1 (pure_pick_false rfl rfl) rfl ?_
          refine TL.run1 (pure_move rfl) rfl ?_
          refine TL.passG rfl rfl rfl rfl ?_
          refine TL.passG rfl rfl rfl rfl ?_
          refine TL.passG rfl rfl rfl rfl ?_
          refine TL.passG rfl rfl rfl rfl ?_
          refine TL.passG rfl rfl rfl rfl ?_
          refine TL.run1 (pure_pick_false rfl rfl) rfl ?_
          refine TL.run1 (pure_assign rfl) rfl ?_
          refine TL.cutEnd (by repeat (first | exact Same.refl _ _ | refine Same.put rfl ?_)) rfl ?_
          first | (simp only [decide_eq_true_eq, Bool.false_eq_true, false_iff, true_iff, iff_true, iff_false, Bool.not_eq_true]; omega) | (simp_all; done) | (simp_all; omega) | grind
      · try dsimp only at hg50
        refine TL.passG rfl rfl rfl rfl ?_
        refine TL.run1 (pure_pick_false rfl rfl) rfl ?_
        refine TL.run1 (pure_move rfl) rfl ?_
        refine TL.passG rfl rfl rfl rfl ?_
        refine TL.passG rfl rfl rfl rfl ?_
        refine TL.passG rfl rfl rfl rfl ?_
        refine TL.run1 (pure_pick_false rfl rfl) rfl ?_
        refine TL.run1 (pure_move rfl) rfl ?_
        refine TL.passG rfl rfl rfl rfl ?_
        refine TL.passG rfl rfl rfl rfl ?_
        refine TL.passG rfl rfl rfl rfl ?_
        refine TL.passG rfl rfl rfl rfl ?_
        refine TL.passG rfl rfl rfl rfl ?_
        refine TL.run1 (pure_pick_false rfl rfl) rfl ?_
        refine TL.run1 (pure_assign rfl) rfl ?_
        refine TL.cutEnd (by repeat (first | exact Same.refl _ _ | refine Same.put rfl ?_)) rfl ?_
        first | (simp only [decide_eq_true_eq, Bool.false_eq_true, false_iff, true_iff, iff_true, iff_false, Bool.not_eq_true]; omega) | (simp_all; done) | (simp_all; omega) | grind
    refine TC.ret ?_
    exact ret_bool rfl (by simp)
set_option maxHeartbeats 2000000 in
set_option maxRecDepth 100000 in
theorem PropertyKeys_spec (key : Int) : Fun Try.prog 8 [.v (.int .i64 key)] (.v (.bool true)) := by
  refine Fun.enter (n := 132) (rs := [.tmp 2]) Try.func8 rfl Try.ntmps8 Try.results8 rfl (fun w F => ?_)
  refine TC.seq ?_
  refine TC.region ?_
  refine TL.run1 (pure_assign rfl) rfl ?_
  refine TL.nil' ?_
  refine TC.seq ?_
  refine TC.region ?_
  refine TL.run1 (pure_move rfl) rfl ?_
  refine TL.run1 (pure_call (Group_spec _) (.cons rfl .nil) Try.call31) rfl ?_
  refine TL.run1 (pure_move rfl) rfl ?_
  refine TL.run1 (pure_extract rfl rfl) rfl ?_
  refine TL.run1 (pure_extract rfl rfl) rfl ?_
  refine TL.run1 (pure_assign rfl) rfl ?_
  refine TL.run1 (pure_assign rfl) rfl ?_
  refine TL.nil' ?_
  refine TC.seq ?_
  refine TC.region ?_
  refine TL.run1 (pure_move rfl) rfl ?_
  refine TL.run1 (pure_call (Bounds_spec _) (.cons rfl .nil) Try.call32) rfl ?_
  refine TL.run1 (pure_move rfl) rfl ?_
  refine TL.run1 (pure_extract rfl rfl) rfl ?_
  refine TL.run1 (pure_extract rfl rfl) rfl ?_
  refine TL.run1 (pure_extract rfl rfl) rfl ?_
  refine TL.run1 (pure_assign rfl) rfl ?_
  refine TL.run1 (pure_assign rfl) rfl ?_
  refine TL.run1 (pure_assign rfl) rfl ?_
  refine TL.nil' ?_
  refine TC.seq ?_
  refine TC.region ?_
  refine TL.run1 (pure_move rfl) rfl ?_
  refine TL.run1 (pure_call (default_spec _) (.cons rfl .nil) Try.call33) rfl ?_
  refine TL.run1 (pure_move rfl) rfl ?_
  refine TL.run1 (pure_extract rfl rfl) rfl ?_
  refine TL.run1 (pure_extract rfl rfl) rfl ?_
  refine TL.run1 (pure_assign rfl) rfl ?_
  refine TL.run1 (pure_assign rfl) rfl ?_
  refine TL.nil' ?_
  refine TC.seq ?_
  refine TC.region ?_
  refine TL.run1 (pure_move rfl) rfl ?_
  refine TL.run1 (pure_call (Name_spec _) (.cons rfl .nil) Try.call34) rfl ?_
  refine TL.run1 (pure_move rfl) rfl ?_
  refine TL.run1 (pure_extract rfl rfl) rfl ?_
  refine TL.run1 (pure_extract rfl rfl) rfl ?_
  refine TL.run1 (pure_assign rfl) rfl ?_
  refine TL.run1 (pure_assign rfl) rfl ?_
  refine TL.nil' ?_
  refine TC.seq ?_
  refine TC.region ?_
  refine TL.run1 (pure_move rfl) rfl ?_
  refine TL.run1 (pure_call (Of_spec _) (.cons rfl .nil) Try.call13) rfl ?_
  refine TL.run1 (pure_move rfl) rfl ?_
  refine TL.run1 (pure_extract rfl rfl) rfl ?_
  refine TL.run1 (pure_extract rfl rfl) rfl ?_
  refine TL.alloc Ty.zero23 rfl (fun g12 => ?_)
  refine TL.store rfl rfl (.agg _) Try.sizeOf23 rfl (by repeat (first | exact UpdR.here _ | apply UpdR.there)) (by repeat (first | exact PutR.nil _ | apply PutR.here | apply PutR.skip)) ?_
  refine TL.run1 (pure_assign rfl) rfl ?_
  refine TL.nil' ?_
  refine TC.seq ?_
  refine TC.seq ?_
  refine TC.region ?_
  refine TL.run1 (pure_move rfl) rfl ?_
  refine TL.run1 (pure_not rfl) rfl ?_
  refine TL.nil' ?_
  first | refine TC.condD rfl (fun hc41 => ?_) (fun hc41 => ?_) | refine TC.condN rfl (fun hc41 => ?_) (fun hc41 => ?_) | refine TC.cond rfl (fun hc41 => ?_) (fun hc41 => ?_)
  · try dsimp only at hc41
    have hin : inI (keysK tableK) key = false := decide_eq_false hc41
    have hk0 : findK key = kE0 := by unfold findK; rw [hin]; rfl
    clear hc41
    refine TC.regionCut [42, 43, 44, 45, 46, 47, 48, 49, 50, 51, 52, 53, 54, 55, 56, 57, 58, 59, 60, 61, 62, 63, 64, 65, 66, 67, 68, 69, 70, 71, 72, 73, 74, 75, 76, 77, 78, 2] 2 (True) ?_ ?_
    · skip
      refine TL.run1 (pure_call (known_spec) .nil Try.call14) rfl ?_
      refine TL.run1 (pure_move rfl) rfl ?_
      first | refine TL.splitP 43 rfl (fun hg43 => ?_) (fun hg43 => ?_) | refine TL.split 43 rfl (fun hg43 => ?_) (fun hg43 => ?_)
      · try dsimp only at hg43
        refine TL.runG rfl rfl (pure_move rfl) rfl ?_
        refine TL.runG rfl rfl (pure_eql rfl rfl) rfl ?_
        refine TL.run1 (pure_pick_true rfl rfl) rfl ?_
        refine TL.run1 (pure_move rfl) rfl ?_
        first | refine TL.splitP 47 rfl (fun hg47 => ?_) (fun hg47 => ?_) | refine TL.split 47 rfl (fun hg47 => ?_) (fun hg47 => ?_)
        · try dsimp only at hg47
          refine TL.runG rfl rfl (pure_move rfl) rfl ?_
          refine TL.runG rfl rfl (pure_eql rfl rfl) rfl ?_
          refine TL.run1 (pure_pick_true rfl rfl) rfl ?_
          refine TL.run1 (pure_move rfl) rfl ?_
          first | refine TL.splitP 51 rfl (fun hg51 => ?_) (fun hg51 => ?_) | refine TL.split 51 rfl (fun hg51 => ?_) (fun hg51 => ?_)
          · try dsimp only at hg51
            refine TL.runG rfl rfl (pure_move rfl) rfl ?_
            refine TL.runG rfl rfl (pure_eql rfl rfl) rfl ?_
            refine TL.run1 (pure_pick_true rfl rfl) rfl ?_
            refine TL.run1 (pure_move rfl) rfl ?_
            first | refine TL.splitP 55 rfl (fun hg55 => ?_) (fun hg55 => ?_) | refine TL.split 55 rfl (fun hg55 => ?_) (fun hg55 => ?_)
            · try dsimp only at hg55
              refine TL.runG rfl rfl (pure_move rfl) rfl ?_
              refine TL.runG rfl rfl (pure_eql rfl rfl) rfl ?_
              refine TL.run1 (pure_pick_true rfl rfl) rfl ?_
              refine TL.run1 (pure_move rfl) rfl ?_
              first | refine TL.splitP 59 rfl (fun hg59 => ?_) (fun hg59 => ?_) | refine TL.split 59 rfl (fun hg59 => ?_) (fun hg59 => ?_)
              · try dsimp only at hg59
                refine TL.runG rfl rfl (pure_move rfl) rfl ?_
                refine TL.runG rfl rfl (pure_eql rfl rfl) rfl ?_
                refine TL.run1 (pure_pick_true rfl rfl) rfl ?_
                refine TL.run1 (pure_move rfl) rfl ?_
                first | refine TL.splitP 63 rfl (fun hg63 => ?_) (fun hg63 => ?_) | refine TL.split 63 rfl (fun hg63 => ?_) (fun hg63 => ?_)
                · try dsimp only at hg63
                  refine TL.runG rfl rfl (pure_move rfl) rfl ?_
                  refine TL.runG rfl rfl (pure_eql rfl rfl) rfl ?_
                  refine TL.run1 (pure_pick_true rfl rfl) rfl ?_
                  refine TL.run1 (pure_move rfl) rfl ?_
                  first | refine TL.splitP 67 rfl (fun hg67 => ?_) (fun hg67 => ?_) | refine TL.split 67 rfl (fun hg67 => ?_) (fun hg67 => ?_)
                  · try dsimp only at hg67
                    refine TL.runG rfl rfl (pure_move rfl) rfl ?_
                    refine TL.runG rfl rfl (pure_eql rfl rfl) rfl ?_
                    refine TL.run1 (pure_pick_true rfl rfl) rfl ?_
                    refine TL.run1 (pure_move rfl) rfl ?_
                    first | refine TL.splitP 71 rfl (fun hg71 => ?_) (fun hg71 => ?_) | refine TL.split 71 rfl (fun hg71 => ?_) (fun hg71 => ?_)
                    · try dsimp only at hg71
                      refine TL.runG rfl rfl (pure_move rfl) rfl ?_
                      refine TL.runG rfl rfl (pure_eql rfl rfl) rfl ?_
                      refine TL.run1 (pure_pick_true rfl rfl) rfl ?_
                      refine TL.run1 (pure_move rfl) rfl ?_
                      first | refine TL.splitP 75 rfl (fun hg75 => ?_) (fun hg75 => ?_) | refine TL.split 75 rfl (fun hg75 => ?_) (fun hg75 => ?_)
                      · try dsimp only at hg75
                        refine TL.runG rfl rfl (pure_move rfl) rfl ?_
                        refine TL.runG rfl rfl (pure_eql_string rfl rfl) rfl ?_
                        refine TL.run1 (pure_pick_true rfl rfl) rfl ?_
                        refine TL.run1 (pure_assign rfl) rfl ?_
                        refine TL.cutEnd (by repeat (first | exact Same.refl _ _ | refine Same.put rfl ?_)) rfl ?_
                        simp_all [kE0]
                      · try dsimp only at hg75
                        refine TL.passG rfl rfl rfl rfl ?_
                        refine TL.passG rfl rfl rfl rfl ?_
                        refine TL.run1 (pure_pick_false rfl rfl) rfl ?_
                        refine TL.run1 (pure_assign rfl) rfl ?_
                        refine TL.cutEnd (by repeat (first | exact Same.refl _ _ | refine Same.put rfl ?_)) rfl ?_
                        simp_all [kE0]
                    · try dsimp only at hg71
                      refine TL.passG rfl rfl rfl rfl ?_
                      refine TL.passG rfl rfl rfl rfl ?_
                      refine TL.run1 (pure_pick_false rfl rfl) rfl ?_
                      refine TL.run1 (pure_move rfl) rfl ?_
                      refine TL.passG rfl rfl rfl rfl ?_
                      refine TL.passG rfl rfl rfl rfl ?_
                      refine TL.run1 (pure_pick_false rfl rfl) rfl ?_
                      refine TL.run1 (pure_assign rfl) rfl ?_
                      refine TL.cutEnd (by repeat (first | exact Same.refl _ _ | refine Same.put rfl ?_)) rfl ?_
                      simp_all [kE0]
                  · try dsimp only at hg67
                    refine TL.passG rfl rfl rfl rfl ?_
                    refine TL.passG rfl rfl rfl rfl ?_
                    refine TL.run1 (pure_pick_false rfl rfl) rfl ?_
                    refine TL.run1 (pure_move rfl) rfl ?_
                    refine TL.passG rfl rfl rfl rfl ?_
                    refine TL.passG rfl rfl rfl rfl ?_
                    refine TL.run1 (pure_pick_false rfl rfl) rfl ?_
                    refine TL.run1 (pure_move rfl) rfl ?_
                    refine TL.passG rfl rfl rfl rfl ?_
                    refine TL.passG rfl rfl rfl rfl ?_
                    refine TL.run1 (pure_pick_false rfl rfl) rfl ?_
                    refine TL.run1 (pure_assign rfl) rfl ?_
                    refine TL.cutEnd (by repeat (first | exact Same.refl _ _ | refine Same.put rfl ?_)) rfl ?_
                    simp_all [kE0]
                · try dsimp only at hg63
                  refine TL.passG rfl rfl rfl rfl ?_
                  refine TL.passG rfl rfl rfl rfl ?_
                  refine TL.run1 (pure_pick_false rfl rfl) rfl ?_
                  refine TL.run1 (pure_move rfl) rfl ?_
                  refine TL.passG rfl rfl rfl rfl ?_
                  refine TL.passG rfl rfl rfl rfl ?_
                  refine TL.run1 (pure_pick_false rfl rfl) rfl ?_
                  refine TL.run1 (pure_move rfl) rfl ?_
                  refine TL.passG rfl rfl rfl rfl ?_
                  refine TL.passG rfl rfl rfl rfl ?_
                  refine TL.run1 (pure_pick_false rfl rfl) rfl ?_
                  refine TL.run1 (pure_move rfl) rfl ?_
                  refine TL.passG rfl rfl rfl rfl ?_
                  refine TL.passG rfl rfl rfl rfl ?_
                  refine TL.run1 (pure_pick_false rfl rfl) rfl ?_
                  refine TL.run1 (pure_assign rfl) rfl ?_
                  refine TL.cutEnd (by repeat (first | exact Same.refl _ _ | refine Same.put rfl ?_)) rfl ?_
                  simp_all [kE0]
              · try dsimp only at hg59
                refine TL.passG rfl rfl rfl rfl ?_
                refine TL.passG rfl rfl rfl rfl ?_
                refine TL.run1 (pure_pick_false rfl rfl) rfl ?_
                refine TL.run1 (pure_move rfl) rfl ?_
                refine TL.passG rfl rfl rfl rfl ?_
                refine TL.passG rfl rfl rfl rfl ?_
                refine TL.run1 (pure_pick_false rfl rfl) rfl ?_
                refine TL.run1 (pure_move rfl) rfl ?_
                refine TL.passG rfl rfl rfl rfl ?_
                refine TL.passG rfl rfl rfl rfl ?_
                refine TL.run1 (pure_pick_false rfl rfl) rfl ?_
                refine TL.run1 (pure_move rfl) rfl ?_
                refine TL.passG rfl rfl rfl rfl ?_
                refine TL.passG rfl rfl rfl rfl ?_
                refine TL.run1 (pure_pick_false rfl rfl) rfl ?_
                refine TL.run1 (pure_move rfl) rfl ?_
                refine TL.passG rfl rfl rfl rfl ?_
                refine TL.passG rfl rfl rfl rfl ?_
                refine TL.run1 (pure_pick_false rfl rfl) rfl ?_
                refine TL.run1 (pure_assign rfl) rfl ?_
                refine TL.cutEnd (by repeat (first | exact Same.refl _ _ | refine Same.put rfl ?_)) rfl ?_
                simp_all [kE0]
            · try dsimp only at hg55
              refine TL.passG rfl rfl rfl rfl ?_
              refine TL.passG rfl rfl rfl rfl ?_
              refine TL.run1 (pure_pick_false rfl rfl) rfl ?_
              refine TL.run1 (pure_move rfl) rfl ?_
              refine TL.passG rfl rfl rfl rfl ?_
              refine TL.passG rfl rfl rfl rfl ?_
              refine TL.run1 (pure_pick_false rfl rfl) rfl ?_
              refine TL.run1 (pure_move rfl) rfl ?_
              refine TL.passG rfl rfl rfl rfl ?_
              refine TL.passG rfl rfl rfl rfl ?_
              refine TL.run1 (pure_pick_false rfl rfl) rfl ?_
              refine TL.run1 (pure_move rfl) rfl ?_
              refine TL.passG rfl rfl rfl rfl ?_
              refine TL.passG rfl rfl rfl rfl ?_
              refine TL.run1 (pure_pick_false rfl rfl) rfl ?_
              refine TL.run1 (pure_move rfl) rfl ?_
              refine TL.passG rfl rfl rfl rfl ?_
              refine TL.passG rfl rfl rfl rfl ?_
              refine TL.run1 (pure_pick_false rfl rfl) rfl ?_
              refine TL.run1 (pure_move rfl) rfl ?_
              refine TL.passG rfl rfl rfl rfl ?_
              refine TL.passG rfl rfl rfl rfl ?_
              refine TL.run1 (pure_pick_false rfl rfl) rfl ?_
              refine TL.run1 (pure_assign rfl) rfl ?_
              refine TL.cutEnd (by repeat (first | exact Same.refl _ _ | refine Same.put rfl ?_)) rfl ?_
              simp_all [kE0]
          · try dsimp only at hg51
            refine TL.passG rfl rfl rfl rfl ?_
            refine TL.passG rfl rfl rfl rfl ?_
            refine TL.run1 (pure_pick_false rfl rfl) rfl ?_
            refine TL.run1 (pure_move rfl) rfl ?_
            refine TL.passG rfl rfl rfl rfl ?_
            refine TL.passG rfl rfl rfl rfl ?_
            refine TL.run1 (pure_pick_false rfl rfl) rfl ?_
            refine TL.run1 (pure_move rfl) rfl ?_
            refine TL.passG rfl rfl rfl rfl ?_
            refine TL.passG rfl rfl rfl rfl ?_
            refine TL.run1 (pure_pick_false rfl rfl) rfl ?_
            refine TL.run1 (pure_move rfl) rfl ?_
            refine TL.passG rfl rfl rfl rfl ?_
            refine TL.passG rfl rfl rfl rfl ?_
            refine TL.run1 (pure_pick_false rfl rfl) rfl ?_
            refine TL.run1 (pure_move rfl) rfl ?_
            refine TL.passG rfl rfl rfl rfl ?_
            refine TL.passG rfl rfl rfl rfl ?_
            refine TL.run1 (pure_pick_false rfl rfl) rfl ?_
            refine TL.run1 (pure_move rfl) rfl ?_
            refine TL.passG rfl rfl rfl rfl ?_
            refine TL.passG rfl rfl rfl rfl ?_
            refine TL.run1 (pure_pick_false rfl rfl) rfl ?_
            refine TL.run1 (pure_move rfl) rfl ?_
            refine TL.passG rfl rfl rfl rfl ?_
            refine TL.passG rfl rfl rfl rfl ?_
            refine TL.run1 (pure_pick_false rfl rfl) rfl ?_
            refine TL.run1 (pure_assign rfl) rfl ?_
            refine TL.cutEnd (by repeat (first | exact Same.refl _ _ | refine Same.put rfl ?_)) rfl ?_
            simp_all [kE0]
        · try dsimp only at hg47
          refine TL.passG rfl rfl rfl rfl ?_
          refine TL.passG rfl rfl rfl rfl ?_
          refine TL.run1 (pure_pick_false rfl rfl) rfl ?_
          refine TL.run1 (pure_move rfl) rfl ?_
          refine TL.passG rfl rfl rfl rfl ?_
          refine TL.passG rfl rfl rfl rfl ?_
          refine TL.run1 (pure_pick_false rfl rfl) rfl ?_
          refine TL.run1 (pure_move rfl) rfl ?_
          refine TL.passG rfl rfl rfl rfl ?_
          refine TL.passG rfl rfl rfl rfl ?_
          refine TL.run1 (pure_pick_false rfl rfl) rfl ?_
          refine TL.run1 (pure_move rfl) rfl ?_
          refine TL.passG rfl rfl rfl rfl ?_
          refine TL.passG rfl rfl rfl rfl ?_
          refine TL.run1 (pure_pick_false rfl rfl) rfl ?_
          refine TL.run1 (pure_move rfl) rfl ?_
          refine TL.passG rfl rfl rfl rfl ?_
          refine TL.passG rfl rfl rfl rfl ?_
          refine TL.run1 (pure_pick_false rfl rfl) rfl ?_
          refine TL.run1 (pure_move rfl) rfl ?_
          refine TL.passG rfl rfl rfl rfl ?_
          refine TL.passG rfl rfl rfl rfl ?_
          refine TL.run1 (pure_pick_false rfl rfl) rfl ?_
          refine TL.run1 (pure_move rfl) rfl ?_
          refine TL.passG rfl rfl rfl rfl ?_
          refine TL.passG rfl rfl rfl rfl ?_
          refine TL.run1 (pure_pick_false rfl rfl) rfl ?_
          refine TL.run1 (pure_move rfl) rfl ?_
          refine TL.passG rfl rfl rfl rfl ?_
          refine TL.passG rfl rfl rfl rfl ?_
          refine TL.run1 (pure_pick_false rfl rfl) rfl ?_
          refine TL.run1 (pure_assign rfl) rfl ?_
          refine TL.cutEnd (by repeat (first | exact Same.refl _ _ | refine Same.put rfl ?_)) rfl ?_
          simp_all [kE0]
      · try dsimp only at hg43
        refine TL.passG rfl rfl rfl rfl ?_
        refine TL.passG rfl rfl rfl rfl ?_
        refine TL.run1 (pure_pick_false rfl rfl) rfl ?_
        refine TL.run1 (pure_move rfl) rfl ?_
        refine TL.passG rfl rfl rfl rfl ?_
        refine TL.passG rfl rfl rfl rfl ?_
        refine TL.run1 (pure_pick_false rfl rfl) rfl ?_
        refine TL.run1 (pure_move rfl) rfl ?_
        refine TL.passG rfl rfl rfl rfl ?_
        refine TL.passG rfl rfl rfl rfl ?_
        refine TL.run1 (pure_pick_false rfl rfl) rfl ?_
        refine TL.run1 (pure_move rfl) rfl ?_
        refine TL.passG rfl rfl rfl rfl ?_
        refine TL.passG rfl rfl rfl rfl ?_
        refine TL.run1 (pure_pick_false rfl rfl) rfl ?_
        refine TL.run1 (pure_move rfl) rfl ?_
        refine TL.passG rfl rfl rfl rfl ?_
        refine TL.passG rfl rfl rfl rfl ?_
        refine TL.run1 (pure_pick_false rfl rfl) rfl ?_
        refine TL.run1 (pure_move rfl) rfl ?_
        refine TL.passG rfl rfl rfl rfl ?_
        refine TL.passG rfl rfl rfl rfl ?_
        refine TL.run1 (pure_pick_false rfl rfl) rfl ?_
        refine TL.run1 (pure_move rfl) rfl ?_
        refine TL.passG rfl rfl rfl rfl ?_
        refine TL.passG rfl rfl rfl rfl ?_
        refine TL.run1 (pure_pick_false rfl rfl) rfl ?_
        refine TL.run1 (pure_move rfl) rfl ?_
        refine TL.passG rfl rfl rfl rfl ?_
        refine TL.passG rfl rfl rfl rfl ?_
        refine TL.run1 (pure_pick_false rfl rfl) rfl ?_
        refine TL.run1 (pure_move rfl) rfl ?_
        refine TL.passG rfl rfl rfl rfl ?_
        refine TL.passG rfl rfl rfl rfl ?_
        refine TL.run1 (pure_pick_false rfl rfl) rfl ?_
        refine TL.run1 (pure_assign rfl) rfl ?_
        refine TL.cutEnd (by repeat (first | exact Same.refl _ _ | refine Same.put rfl ?_)) rfl ?_
        simp_all [kE0]
    refine TC.ret ?_
    refine then_ret ?_
    exact ret_bool rfl (by simp)
  · try dsimp only at hc41
    have hin : inI (keysK tableK) key = true := decide_eq_true hc41
    have hs : checkV key (findK key).std = 0 := (std_ok key).resolve_right (by rw [hin]; simp)
    clear hc41
    refine TC.skip' ?_
    refine TC.regionCut [79, 80, 81, 82, 83, 84, 85, 86, 87, 88, 89, 90, 91, 92, 93, 94, 95, 96, 97, 98, 99, 100, 101, 102, 103, 104, 105, 106, 107, 108, 109, 110, 111, 112, 113, 114, 115, 116, 117, 118, 119, 120, 121, 122, 123, 124, 125, 126, 127, 128, 129, 130, 131, 2] 2 (True) ?_ ?_
    · skip
      refine TL.run1 (pure_call (known_spec) .nil Try.call14) rfl ?_
      refine TL.run1 (pure_move rfl) rfl ?_
      first | refine TL.splitP 80 rfl (fun hg80 => ?_) (fun hg80 => ?_) | refine TL.split 80 rfl (fun hg80 => ?_) (fun hg80 => ?_)
      · try dsimp only at hg80
        refine TL.runG rfl rfl (pure_move rfl) rfl ?_
        refine TL.runG rfl rfl (pure_eql rfl rfl) rfl ?_
        refine TL.run1 (pure_pick_true rfl rfl) rfl ?_
        refine TL.run1 (pure_move rfl) rfl ?_
        first | refine TL.splitP 84 rfl (fun hg84 => ?_) (fun hg84 => ?_) | refine TL.split 84 rfl (fun hg84 => ?_) (fun hg84 => ?_)
        · try dsimp only at hg84
          refine TL.runG rfl rfl (pure_move rfl) rfl ?_
          refine TL.runG rfl rfl (pure_eql rfl rfl) rfl ?_
          refine TL.run1 (pure_pick_true rfl rfl) rfl ?_
          refine TL.run1 (pure_move rfl) rfl ?_
          first | refine TL.splitP 88 rfl (fun hg88 => ?_) (fun hg88 => ?_) | refine TL.split 88 rfl (fun hg88 => ?_) (fun hg88 => ?_)
          · try dsimp only at hg88
            refine TL.runG rfl rfl (pure_move rfl) rfl ?_
            refine TL.runG rfl rfl (pure_eql rfl rfl) rfl ?_
            refine TL.run1 (pure_pick_true rfl rfl) rfl ?_
            refine TL.run1 (pure_move rfl) rfl ?_
            first | refine TL.splitP 92 rfl (fun hg92 => ?_) (fun hg92 => ?_) | refine TL.split 92 rfl (fun hg92 => ?_) (fun hg92 => ?_)
            · try dsimp only at hg92
              refine TL.runG rfl rfl (pure_move rfl) rfl ?_
              refine TL.runG rfl rfl (pure_eql rfl rfl) rfl ?_
              refine TL.run1 (pure_pick_true rfl rfl) rfl ?_
              refine TL.run1 (pure_move rfl) rfl ?_
              first | refine TL.splitP 96 rfl (fun hg96 => ?_) (fun hg96 => ?_) | refine TL.split 96 rfl (fun hg96 => ?_) (fun hg96 => ?_)
              · try dsimp only at hg96
                refine TL.runG rfl rfl (pure_move rfl) rfl ?_
                first | refine TL.runG rfl rfl (pure_fieldAddr Ty.f23_1 rfl (.succ (.zero _)) (List.cons_ne_nil _ _)) rfl ?_ | refine TL.runG rfl rfl (pure_fieldAddr_own Ty.f23_1 rfl) rfl ?_
                first | refine TL.runG rfl rfl (pure_load1 Ty.one3 rfl) rfl ?_ | refine TL.runG rfl rfl (pure_load1_own Ty.one3 rfl (by repeat (first | exact List.Mem.head _ | apply List.Mem.tail)) (by repeat (first | exact DropR.zero _ | apply DropR.succ))) rfl ?_
                refine TL.runG rfl rfl (pure_eql rfl rfl) rfl ?_
                refine TL.run1 (pure_pick_true rfl rfl) rfl ?_
                refine TL.run1 (pure_move rfl) rfl ?_
                first | refine TL.splitP 102 rfl (fun hg102 => ?_) (fun hg102 => ?_) | refine TL.split 102 rfl (fun hg102 => ?_) (fun hg102 => ?_)
                · try dsimp only at hg102
                  refine TL.runG rfl rfl (pure_move rfl) rfl ?_
                  first | refine TL.runG rfl rfl (pure_fieldAddr Ty.f23_2 rfl (.succ (.succ (.zero _))) (List.cons_ne_nil _ _)) rfl ?_ | refine TL.runG rfl rfl (pure_fieldAddr_own Ty.f23_2 rfl) rfl ?_
                  first | refine TL.runG rfl rfl (pure_load1 Ty.one3 rfl) rfl ?_ | refine TL.runG rfl rfl (pure_load1_own Ty.one3 rfl (by repeat (first | exact List.Mem.head _ | apply List.Mem.tail)) (by repeat (first | exact DropR.zero _ | apply DropR.succ))) rfl ?_
                  refine TL.runG rfl rfl (pure_eql rfl rfl) rfl ?_
                  refine TL.run1 (pure_pick_true rfl rfl) rfl ?_
                  refine TL.run1 (pure_move rfl) rfl ?_
                  first | refine TL.splitP 108 rfl (fun hg108 => ?_) (fun hg108 => ?_) | refine TL.split 108 rfl (fun hg108 => ?_) (fun hg108 => ?_)
                  · try dsimp only at hg108
                    refine TL.runG rfl rfl (pure_move rfl) rfl ?_
                    first | refine TL.runG rfl rfl (pure_fieldAddr Ty.f23_3 rfl (.succ (.succ (.succ (.zero _)))) (List.cons_ne_nil _ _)) rfl ?_ | refine TL.runG rfl rfl (pure_fieldAddr_own Ty.f23_3 rfl) rfl ?_
                    first | refine TL.runG rfl rfl (pure_load1 Ty.one3 rfl) rfl ?_ | refine TL.runG rfl rfl (pure_load1_own Ty.one3 rfl (by repeat (first | exact List.Mem.head _ | apply List.Mem.tail)) (by repeat (first | exact DropR.zero _ | apply DropR.succ))) rfl ?_
                    refine TL.runG rfl rfl (pure_eql rfl rfl) rfl ?_
                    refine TL.run1 (pure_pick_true rfl rfl) rfl ?_
                    refine TL.run1 (pure_move rfl) rfl ?_
                    first | refine TL.splitP 114 rfl (fun hg114 => ?_) (fun hg114 => ?_) | refine TL.split 114 rfl (fun hg114 => ?_) (fun hg114 => ?_)
                    · try dsimp only at hg114
                      refine TL.runG rfl rfl (pure_move rfl) rfl ?_
                      first | refine TL.runG rfl rfl (pure_fieldAddr Ty.f23_4 rfl (.succ (.succ (.succ (.succ (.zero _))))) (List.cons_ne_nil _ _)) rfl ?_ | refine TL.runG rfl rfl (pure_fieldAddr_own Ty.f23_4 rfl) rfl ?_
                      first | refine TL.runG rfl rfl (pure_load1 Ty.one3 rfl) rfl ?_ | refine TL.runG rfl rfl (pure_load1_own Ty.one3 rfl (by repeat (first | exact List.Mem.head _ | apply List.Mem.tail)) (by repeat (first | exact DropR.zero _ | apply DropR.succ))) rfl ?_
                      refine TL.runG rfl rfl (pure_eql rfl rfl) rfl ?_
                      refine TL.run1 (pure_pick_true rfl rfl) rfl ?_
                      refine TL.run1 (pure_move rfl) rfl ?_
                      first | refine TL.splitP 120 rfl (fun hg120 => ?_) (fun hg120 => ?_) | refine TL.split 120 rfl (fun hg120 => ?_) (fun hg120 => ?_)
                      · try dsimp only at hg120
                        refine TL.runG rfl rfl (pure_move rfl) rfl ?_
                        first | refine TL.runG rfl rfl (pure_fieldAddr Ty.f23_5 rfl (.succ (.succ (.succ (.succ (.succ (.zero _)))))) (List.cons_ne_nil _ _)) rfl ?_ | refine TL.runG rfl rfl (pure_fieldAddr_own Ty.f23_5 rfl) rfl ?_
                        first | refine TL.runG rfl rfl (pure_load1 Ty.one9 rfl) rfl ?_ | refine TL.runG rfl rfl (pure_load1_own Ty.one9 rfl (by repeat (first | exact List.Mem.head _ | apply List.Mem.tail)) (by repeat (first | exact DropR.zero _ | apply DropR.succ))) rfl ?_
                        refine TL.runG rfl rfl (pure_eql_string rfl rfl) rfl ?_
                        refine TL.run1 (pure_pick_true rfl rfl) rfl ?_
                        refine TL.run1 (pure_move rfl) rfl ?_
                        first | refine TL.splitP 126 rfl (fun hg126 => ?_) (fun hg126 => ?_) | refine TL.split 126 rfl (fun hg126 => ?_) (fun hg126 => ?_)
                        · try dsimp only at hg126
                          refine TL.runG rfl rfl (pure_move rfl) rfl ?_
                          refine TL.runG rfl rfl (pure_move rfl) rfl ?_
                          refine TL.runG rfl rfl (pure_call (CheckValue_spec _ _) (.cons rfl (.cons rfl .nil)) Try.call17) rfl ?_
                          refine TL.runG rfl rfl (pure_eql rfl rfl) rfl ?_
                          refine TL.run1 (pure_pick_true rfl rfl) rfl ?_
                          refine TL.run1 (pure_assign rfl) rfl ?_
                          refine TL.cutEnd (by repeat (first | exact Same.refl _ _ | refine Same.put rfl ?_)) rfl ?_
                          simp_all
                        · try dsimp only at hg126
                          refine TL.passG rfl rfl rfl rfl ?_
                          refine TL.passG rfl rfl rfl rfl ?_
                          refine TL.passG rfl rfl rfl rfl ?_
                          refine TL.passG rfl rfl rfl rfl ?_
                          refine TL.run1 (pure_pick_false rfl rfl) rfl ?_
                          refine TL.run1 (pure_assign rfl) rfl ?_
                          refine TL.cutEnd (by repeat (first | exact Same.refl _ _ | refine Same.put rfl ?_)) rfl ?_
                          simp_all
                      · try dsimp only at hg120
                        refine TL.passG rfl rfl rfl rfl ?_
                        refine TL.passG rfl rfl rfl rfl ?_
                        refine TL.passG rfl rfl rfl rfl ?_
                        refine TL.passG rfl rfl rfl rfl ?_
                        refine TL.run1 (pure_pick_false rfl rfl) rfl ?_
                        refine TL.run1 (pure_move rfl) rfl ?_
                        refine TL.passG rfl rfl rfl rfl ?_
                        refine TL.passG rfl rfl rfl rfl ?_
                        refine TL.passG rfl rfl rfl rfl ?_
                        refine TL.passG rfl rfl rfl rfl ?_
                        refine TL.run1 (pure_pick_false rfl rfl) rfl ?_
                        refine TL.run1 (pure_assign rfl) rfl ?_
                        refine TL.cutEnd (by repeat (first | exact Same.refl _ _ | refine Same.put rfl ?_)) rfl ?_
                        simp_all
                    · try dsimp only at hg114
                      refine TL.passG rfl rfl rfl rfl ?_
                      refine TL.passG rfl rfl rfl rfl ?_
                      refine TL.passG rfl rfl rfl rfl ?_
                      refine TL.passG rfl rfl rfl rfl ?_
                      refine TL.run1 (pure_pick_false rfl rfl) rfl ?_
                      refine TL.run1 (pure_move rfl) rfl ?_
                      refine TL.passG rfl rfl rfl rfl ?_
                      refine TL.passG rfl rfl rfl rfl ?_
                      refine TL.passG rfl rfl rfl rfl ?_
                      refine TL.passG rfl rfl rfl rfl ?_
                      refine TL.run1 (pure_pick_false rfl rfl) rfl ?_
                      refine TL.run1 (pure_move rfl) rfl ?_
                      refine TL.passG rfl rfl rfl rfl ?_
                      refine TL.passG rfl rfl rfl rfl ?_
                      refine TL.passG rfl rfl rfl rfl ?_
                      refine TL.passG rfl rfl rfl rfl ?_
                      refine TL.run1 (pure_pick_false rfl rfl) rfl ?_
                      refine TL.run1 (pure_assign rfl) rfl ?_
                      refine TL.cutEnd (by repeat (first | exact Same.refl _ _ | refine Same.put rfl ?_)) rfl ?_
                      simp_all
                  · try dsimp only at hg108
                    refine TL.passG rfl rfl rfl rfl ?_
                    refine TL.passG rfl rfl rfl rfl ?_
                    refine TL.passG rfl rfl rfl rfl ?_
                    refine TL.passG rfl rfl rfl rfl ?_
                    refine TL.run1 (pure_pick_false rfl rfl) rfl ?_
                    refine TL.run1 (pure_move rfl) rfl ?_
                    refine TL.passG rfl rfl rfl rfl ?_
                    refine TL.passG rfl rfl rfl rfl ?_
                    refine TL.passG rfl rfl rfl rfl ?_
                    refine TL.passG rfl rfl rfl rfl ?_
                    refine TL.run1 (pure_pick_false rfl rfl) rfl ?_
                    refine TL.run1 (pure_move rfl) rfl ?_
                    refine TL.passG rfl rfl rfl rfl ?_
                    refine TL.passG rfl rfl rfl rfl ?_
                    refine TL.passG rfl rfl rfl rfl ?_
                    refine TL.passG rfl rfl rfl rfl ?_
                    refine TL.run1 (pure_pick_false rfl rfl) rfl ?_
                    refine TL.run1 (pure_move rfl) rfl ?_
                    refine TL.passG rfl rfl rfl rfl ?_
                    refine TL.passG rfl rfl rfl rfl ?_
                    refine TL.passG rfl rfl rfl rfl ?_
                    refine TL.passG rfl rfl rfl rfl ?_
                    refine TL.run1 (pure_pick_false rfl rfl) rfl ?_
                    refine TL.run1 (pure_assign rfl) rfl ?_
                    refine TL.cutEnd (by repeat (first | exact Same.refl _ _ | refine Same.put rfl ?_)) rfl ?_
                    simp_all
                · try dsimp only at hg102
                  refine TL.passG rfl rfl rfl rfl ?_
                  refine TL.passG rfl rfl rfl rfl ?_
                  refine TL.passG rfl rfl rfl rfl ?_
                  refine TL.passG rfl rfl rfl rfl ?_
                  refine TL.run1 (pure_pick_false rfl rfl) rfl ?_
                  refine TL.run1 (pure_move rfl) rfl ?_
                  refine TL.passG rfl rfl rfl rfl ?_
                  refine TL.passG rfl rfl rfl rfl ?_
                  refine TL.passG rfl rfl rfl rfl ?_
                  refine TL.passG rfl rfl rfl rfl ?_
                  refine TL.run1 (pure_pick_false rfl rfl) rfl ?_
                  refine TL.run1 (pure_move rfl) rfl ?_
                  refine TL.passG rfl rfl rfl rfl ?_
                  refine TL.passG rfl rfl rfl rfl ?_
                  refine TL.passG rfl rfl rfl rfl ?_
                  refine TL.passG rfl rfl rfl rfl ?_
                  refine TL.run1 (pure_pick_false rfl rfl) rfl ?_
                  refine TL.run1 (pure_move rfl) rfl ?_
                  refine TL.passG rfl rfl rfl rfl ?_
                  refine TL.passG rfl rfl rfl rfl ?_
                  refine TL.passG rfl rfl rfl rfl ?_
                  refine TL.passG rfl rfl rfl rfl ?_
                  refine TL.run1 (pure_pick_false rfl rfl) rfl ?_
                  refine TL.run1 (pure_move rfl) rfl ?_
                  refine TL.passG rfl rfl rfl rfl ?_
                  refine TL.passG rfl rfl rfl rfl ?_
                  refine TL.passG rfl rfl rfl rfl ?_
                  refine TL.passG rfl rfl rfl rfl ?_
                  refine TL.run1 (pure_pick_false rfl rfl) rfl ?_
                  refine TL.run1 (pure_assign rfl) rfl ?_
                  refine TL.cutEnd (by repeat (first | exact Same.refl _ _ | refine Same.put rfl ?_)) rfl ?_
                  simp_all
              · try dsimp only at hg96
                refine TL.passG rfl rfl rfl rfl ?_
                refine TL.passG rfl rfl rfl rfl ?_
                refine TL.passG rfl rfl rfl rfl ?_
                refine TL.passG rfl rfl rfl rfl ?_
                refine TL.run1 (pure_pick_false rfl rfl) rfl ?_
                refine TL.run1 (pure_move rfl) rfl ?_
                refine TL.passG rfl rfl rfl rfl ?_
                refine TL.passG rfl rfl rfl rfl ?_
                refine TL.passG rfl rfl rfl rfl ?_
                refine TL.passG rfl rfl rfl rfl ?_
                refine TL.run1 (pure_pick_false rfl rfl) rfl ?_
                refine TL.run1 (pure_move rfl) rfl ?_
                refine TL.passG rfl rfl rfl rfl ?_
                refine TL.passG rfl rfl rfl rfl ?_
                refine TL.passG rfl rfl rfl rfl ?_
                refine TL.passG rfl rfl rfl rfl ?_
                refine TL.run1 (pure_pick_false rfl rfl) rfl ?_
                refine TL.run1 (pure_move rfl) rfl ?_
                refine TL.passG rfl rfl rfl rfl ?_
                refine TL.passG rfl rfl rfl rfl ?_
                refine TL.passG rfl rfl rfl rfl ?_
                refine TL.passG rfl rfl rfl rfl ?_
                refine TL.run1 (pure_pick_false rfl rfl) rfl ?_
                refine TL.run1 (pure_move rfl) rfl ?_
                refine TL.passG rfl rfl rfl rfl ?_
                refine TL.passG rfl rfl rfl rfl ?_
                refine TL.passG rfl rfl rfl rfl ?_
                refine TL.passG rfl rfl rfl rfl ?_
                refine TL.run1 (pure_pick_false rfl rfl) rfl ?_
                refine TL.run1 (pure_move rfl) rfl ?_
                refine TL.passG rfl rfl rfl rfl ?_
                refine TL.passG rfl rfl rfl rfl ?_
                refine TL.passG rfl rfl rfl rfl ?_
                refine TL.passG rfl rfl rfl rfl ?_
                refine TL.run1 (pure_pick_false rfl rfl) rfl ?_
                refine TL.run1 (pure_assign rfl) rfl ?_
                refine TL.cutEnd (by repeat (first | exact Same.refl _ _ | refine Same.put rfl ?_)) rfl ?_
                simp_all
            · try dsimp only at hg92
              refine TL.passG rfl rfl rfl rfl ?_
              refine TL.passG rfl rfl rfl rfl ?_
              refine TL.run1 (pure_pick_false rfl rfl) rfl ?_
              refine TL.run1 (pure_move rfl) rfl ?_
              refine TL.passG rfl rfl rfl rfl ?_
              refine TL.passG rfl rfl rfl rfl ?_
              refine TL.passG rfl rfl rfl rfl ?_
              refine TL.passG rfl rfl rfl rfl ?_
              refine TL.run1 (pure_pick_false rfl rfl) rfl ?_
              refine TL.run1 (pure_move rfl) rfl ?_
              refine TL.passG rfl rfl rfl rfl ?_
              refine TL.passG rfl rfl rfl rfl ?_
              refine TL.passG rfl rfl rfl rfl ?_
              refine TL.passG rfl rfl rfl rfl ?_
              refine TL.run1 (pure_pick_false rfl rfl) rfl ?_
              refine TL.run1 (pure_move rfl) rfl ?_
              refine TL.passG rfl rfl rfl rfl ?_
              refine TL.passG rfl rfl rfl rfl ?_
              refine TL.passG rfl rfl rfl rfl ?_
              refine TL.passG rfl rfl rfl rfl ?_
              refine TL.run1 (pure_pick_false rfl rfl) rfl ?_
              refine TL.run1 (pure_move rfl) rfl ?_
              refine TL.passG rfl rfl rfl rfl ?_
              refine TL.passG rfl rfl rfl rfl ?_
              refine TL.passG rfl rfl rfl rfl ?_
              refine TL.passG rfl rfl rfl rfl ?_
              refine TL.run1 (pure_pick_false rfl rfl) rfl ?_
              refine TL.run1 (pure_move rfl) rfl ?_
              refine TL.passG rfl rfl rfl rfl ?_
              refine TL.passG rfl rfl rfl rfl ?_
              refine TL.passG rfl rfl rfl rfl ?_
              refine TL.passG rfl rfl rfl rfl ?_
              refine TL.run1 (pure_pick_false rfl rfl) rfl ?_
              refine TL.run1 (pure_move rfl) rfl ?_
              refine TL.passG rfl rfl rfl rfl ?_
              refine TL.passG rfl rfl rfl rfl ?_
              refine TL.passG rfl rfl rfl rfl ?_
              refine TL.passG rfl rfl rfl rfl ?_
              refine TL.run1 (pure_pick_false rfl rfl) rfl ?_
              refine TL.run1 (pure_assign rfl) rfl ?_
              refine TL.cutEnd (by repeat (first | exact Same.refl _ _ | refine Same.put rfl ?_)) rfl ?_
              simp_all
          · try dsimp only at hg88
            refine TL.passG rfl rfl rfl rfl ?_
            refine TL.passG rfl rfl rfl rfl ?_
            refine TL.run1 (pure_pick_false rfl rfl) rfl ?_
            refine TL.run1 (pure_move rfl) rfl ?_
            refine TL.passG rfl rfl rfl rfl ?_
            refine TL.passG rfl rfl rfl rfl ?_
            refine TL.run1 (pure_pick_false rfl rfl) rfl ?_
            refine TL.run1 (pure_move rfl) rfl ?_
            refine TL.passG rfl rfl rfl rfl ?_
            refine TL.passG rfl rfl rfl rfl ?_
            refine TL.passG rfl rfl rfl rfl ?_
            refine TL.passG rfl rfl rfl rfl ?_
            refine TL.run1 (pure_pick_false rfl rfl) rfl ?_
            refine TL.run1 (pure_move rfl) rfl ?_
            refine TL.passG rfl rfl rfl rfl ?_
            refine TL.passG rfl rfl rfl rfl ?_
            refine TL.passG rfl rfl rfl rfl ?_
            refine TL.passG rfl rfl rfl rfl ?_
            refine TL.run1 (pure_pick_false rfl rfl) rfl ?_
            refine TL.run1 (pure_move rfl) rfl ?_
            refine TL.passG rfl rfl rfl rfl ?_
            refine TL.passG rfl rfl rfl rfl ?_
            refine TL.passG rfl rfl rfl rfl ?_
            refine TL.passG rfl rfl rfl rfl ?_
            refine TL.run1 (pure_pick_false rfl rfl) rfl ?_
            refine TL.run1 (pure_move rfl) rfl ?_
            refine TL.passG rfl rfl rfl rfl ?_
            refine TL.passG rfl rfl rfl rfl ?_
            refine TL.passG rfl rfl rfl rfl ?_
            refine TL.passG rfl rfl rfl rfl ?_
            refine TL.run1 (pure_pick_false rfl rfl) rfl ?_
            refine TL.run1 (pure_move rfl) rfl ?_
            refine TL.passG rfl rfl rfl rfl ?_
            refine TL.passG rfl rfl rfl rfl ?_
            refine TL.passG rfl rfl rfl rfl ?_
            refine TL.passG rfl rfl rfl rfl ?_
            refine TL.run1 (pure_pick_false rfl rfl) rfl ?_
            refine TL.run1 (pure_move rfl) rfl ?_
            refine TL.passG rfl rfl rfl rfl ?_
            refine TL.passG rfl rfl rfl rfl ?_
            refine TL.passG rfl rfl rfl rfl ?_
            refine TL.passG rfl rfl rfl rfl ?_
            refine TL.run1 (pure_pick_false rfl rfl) rfl ?_
            refine TL.run1 (pure_assign rfl) rfl ?_
            refine TL.cutEnd (by repeat (first | exact Same.refl _ _ | refine Same.put rfl ?_)) rfl ?_
            simp_all
        · try dsimp only at hg84
          refine TL.passG rfl rfl rfl rfl ?_
          refine TL.passG rfl rfl rfl rfl ?_
          refine TL.run1 (pure_pick_false rfl rfl) rfl ?_
          refine TL.run1 (pure_move rfl) rfl ?_
          refine TL.passG rfl rfl rfl rfl ?_
          refine TL.passG rfl rfl rfl rfl ?_
          refine TL.run1 (pure_pick_false rfl rfl) rfl ?_
          refine TL.run1 (pure_move rfl) rfl ?_
          refine TL.passG rfl rfl rfl rfl ?_
          refine TL.passG rfl rfl rfl rfl ?_
          refine TL.run1 (pure_pick_false rfl rfl) rfl ?_
          refine TL.run1 (pure_move rfl) rfl ?_
          refine TL.passG rfl rfl rfl rfl ?_
          refine TL.passG rfl rfl rfl rfl ?_
          refine TL.passG rfl rfl rfl rfl ?_
          refine TL.passG rfl rfl rfl rfl ?_
          refine TL.run1 (pure_pick_false rfl rfl) rfl ?_
          refine TL.run1 (pure_move rfl) rfl ?_
          refine TL.passG rfl rfl rfl rfl ?_
          refine TL.passG rfl rfl rfl rfl ?_
          refine TL.passG rfl rfl rfl rfl ?_
          refine TL.passG rfl rfl rfl rfl ?_
          refine TL.run1 (pure_pick_false rfl rfl) rfl ?_
          refine TL.run1 (pure_move rfl) rfl ?_
          refine TL.passG rfl rfl rfl rfl ?_
          refine TL.passG rfl rfl rfl rfl ?_
          refine TL.passG rfl rfl rfl rfl ?_
          refine TL.passG rfl rfl rfl rfl ?_
          refine TL.run1 (pure_pick_false rfl rfl) rfl ?_
          refine TL.run1 (pure_move rfl) rfl ?_
          refine TL.passG rfl rfl rfl rfl ?_
          refine TL.passG rfl rfl rfl rfl ?_
          refine TL.passG rfl rfl rfl rfl ?_
          refine TL.passG rfl rfl rfl rfl ?_
          refine TL.run1 (pure_pick_false rfl rfl) rfl ?_
          refine TL.run1 (pure_move rfl) rfl ?_
          refine TL.passG rfl rfl rfl rfl ?_
          refine TL.passG rfl rfl rfl rfl ?_
          refine TL.passG rfl rfl rfl rfl ?_
          refine TL.passG rfl rfl rfl rfl ?_
          refine TL.run1 (pure_pick_false rfl rfl) rfl ?_
          refine TL.run1 (pure_move rfl) rfl ?_
          refine TL.passG rfl rfl rfl rfl ?_
          refine TL.passG rfl rfl rfl rfl ?_
          refine TL.passG rfl rfl rfl rfl ?_
          refine TL.passG rfl rfl rfl rfl ?_
          refine TL.run1 (pure_pick_false rfl rfl) rfl ?_
          refine TL.run1 (pure_assign rfl) rfl ?_
          refine TL.cutEnd (by repeat (first | exact Same.refl _ _ | refine Same.put rfl ?_)) rfl ?_
          simp_all
      · try dsimp only at hg80
        refine TL.passG rfl rfl rfl rfl ?_
        refine TL.passG rfl rfl rfl rfl ?_
        refine TL.run1 (pure_pick_false rfl rfl) rfl ?_
        refine TL.run1 (pure_move rfl) rfl ?_
        refine TL.passG rfl rfl rfl rfl ?_
        refine TL.passG rfl rfl rfl rfl ?_
        refine TL.run1 (pure_pick_false rfl rfl) rfl ?_
        refine TL.run1 (pure_move rfl) rfl ?_
        refine TL.passG rfl rfl rfl rfl ?_
        refine TL.passG rfl rfl rfl rfl ?_
        refine TL.run1 (pure_pick_false rfl rfl) rfl ?_
        refine TL.run1 (pure_move rfl) rfl ?_
        refine TL.passG rfl rfl rfl rfl ?_
        refine TL.passG rfl rfl rfl rfl ?_
        refine TL.run1 (pure_pick_false rfl rfl) rfl ?_
        refine TL.run1 (pure_move rfl) rfl ?_
        refine TL.passG rfl rfl rfl rfl ?_
        refine TL.passG rfl rfl rfl rfl ?_
        refine TL.passG rfl rfl rfl rfl ?_
        refine TL.passG rfl rfl rfl rfl ?_
        refine TL.run1 (pure_pick_false rfl rfl) rfl ?_
        refine TL.run1 (pure_move rfl) rfl ?_
        refine TL.passG rfl rfl rfl rfl ?_
        refine TL.passG rfl rfl rfl rfl ?_
        refine TL.passG rfl rfl rfl rfl ?_
        refine TL.passG rfl rfl rfl rfl ?_
        refine TL.run1 (pure_pick_false rfl rfl) rfl ?_
        refine TL.run1 (pure_move rfl) rfl ?_
        refine TL.passG rfl rfl rfl rfl ?_
        refine TL.passG rfl rfl rfl rfl ?_
        refine TL.passG rfl rfl rfl rfl ?_
        refine TL.passG rfl rfl rfl rfl ?_
        refine TL.run1 (pure_pick_false rfl rfl) rfl ?_
        refine TL.run1 (pure_move rfl) rfl ?_
        refine TL.passG rfl rfl rfl rfl ?_
        refine TL.passG rfl rfl rfl rfl ?_
        refine TL.passG rfl rfl rfl rfl ?_
        refine TL.passG rfl rfl rfl rfl ?_
        refine TL.run1 (pure_pick_false rfl rfl) rfl ?_
        refine TL.run1 (pure_move rfl) rfl ?_
        refine TL.passG rfl rfl rfl rfl ?_
        refine TL.passG rfl rfl rfl rfl ?_
        refine TL.passG rfl rfl rfl rfl ?_
        refine TL.passG rfl rfl rfl rfl ?_
        refine TL.run1 (pure_pick_false rfl rfl) rfl ?_
        refine TL.run1 (pure_move rfl) rfl ?_
        refine TL.passG rfl rfl rfl rfl ?_
        refine TL.passG rfl rfl rfl rfl ?_
        refine TL.passG rfl rfl rfl rfl ?_
        refine TL.passG rfl rfl rfl rfl ?_
        refine TL.run1 (pure_pick_false rfl rfl) rfl ?_
        refine TL.run1 (pure_assign rfl) rfl ?_
        refine TL.cutEnd (by repeat (first | exact Same.refl _ _ | refine Same.put rfl ?_)) rfl ?_
        simp_all
    refine TC.ret ?_
    exact ret_bool rfl (by simp)
end Go.Ob
