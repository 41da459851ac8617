import Derived.Test.YtajklmaaokgecaaK9
set_option linter.unusedVariables false
set_option linter.unusedSimpArgs false
namespace Go.Ob
open Go.Proofs

theorem ApplyD_spec (a b : List (Int × Int)) (ha : Inc (keysP a)) (hb : Inc (keysP b)) (hl : 2 * a.length + b.length ≤ 1000000) : Fun Try.prog 41 [.sl 2 (encP a), .sl 5 (encD (diffP a b))] (.tup [.sl 2 (encP b), .v (.int .i64 0)]) := by
  have h := Apply_spec a (diffP a b) ha (by have := diffP_len a b; omega)
  rw [diff_apply ha hb] at h
  exact h
theorem ApplyI_spec (a b : List (Int × Int)) (ha : Inc (keysP a)) (hb : Inc (keysP b)) (hl : a.length + 2 * b.length ≤ 1000000) : Fun Try.prog 41 [.sl 2 (encP b), .sl 5 (encD (invP (diffP a b)))] (.tup [.sl 2 (encP a), .v (.int .i64 0)]) := by
  have h := Apply_spec b (invP (diffP a b)) hb (by have := diffP_len a b; rw [invP_len]; omega)
  rw [diff_back ha hb] at h
  exact h
set_option maxRecDepth 100000 in
theorem PropertySets_spec (l : List (Int × Int)) (key value : Int) (hla : l.length ≤ 9223372036854775807) : Fun Try.prog 9 [.sl 2 (encP l), .v (.int .i64 key), .v (.int .i64 value)] (.v (.bool true)) := by
  refine Fun.enter (n := 38) (rs := [.tmp 6]) Try.func9 rfl Try.ntmps9 Try.results9 rfl (fun w F => ?_)
  have hi := ordP_inc l
  have hl : (ordP l).length ≤ 1000000 := by have := ordP_len l; omega
  have hs := setP_inc hi key value
  have h1 := setP_len (ordP l) key value
  have h2 := clearP_len (ordP l) key
  have h3 := ordP_len l
  refine TC.seq ?_
  refine TC.region ?_
  refine TL.run1 (pure_assign rfl) rfl ?_
  refine TL.nil' ?_
  refine TC.seq ?_
  refine TC.region ?_
  refine TL.run1 (pure_move rfl) rfl ?_
  refine TL.run1 (pure_call (ordered_spec _ hla) (.cons rfl .nil) Try.call20) rfl ?_
  refine TL.run1 (pure_assign rfl) rfl ?_
  refine TL.nil' ?_
  refine TC.seq ?_
  refine TC.region ?_
  refine TL.run1 (pure_move rfl) rfl ?_
  refine TL.run1 (pure_move rfl) rfl ?_
  refine TL.run1 (pure_move rfl) rfl ?_
  refine TL.run1 (pure_call (Set_spec _ _ _ hi hl) (.cons rfl (.cons rfl (.cons rfl .nil))) Try.call35) rfl ?_
  refine TL.run1 (pure_move rfl) rfl ?_
  refine TL.run1 (pure_move rfl) rfl ?_
  refine TL.run1 (pure_call (Clear_spec _ _ hi hl) (.cons rfl (.cons rfl .nil)) Try.call36) rfl ?_
  refine TL.run1 (pure_assign rfl) rfl ?_
  refine TL.run1 (pure_assign rfl) rfl ?_
  refine TL.nil' ?_
  refine TC.regionCut [18, 19, 20, 21, 22, 23, 24, 25, 26, 27, 28, 29, 30, 31, 32, 33, 34, 35, 36, 37, 6] 6 (True) ?_ ?_
  · skip
    refine TL.run1 (pure_call (known_spec) .nil Try.call14) rfl ?_
    refine TL.run1 (pure_move rfl) rfl ?_
    first | refine TL.splitP 19 rfl (fun hg19 => ?_) (fun hg19 => ?_) | refine TL.split 19 rfl (fun hg19 => ?_) (fun hg19 => ?_)
    · try dsimp only at hg19
      refine TL.runG rfl rfl (pure_move rfl) rfl ?_
      refine TL.runG rfl rfl (pure_move rfl) rfl ?_
      refine TL.runG rfl rfl (pure_move rfl) rfl ?_
      refine TL.runG rfl rfl (pure_move rfl) rfl ?_
      refine TL.runG rfl rfl (pure_call (RSet_spec _ _ _ hl) (.cons rfl (.cons rfl (.cons rfl .nil))) Try.call37) rfl ?_
      refine TL.runG rfl rfl (pure_call (REqual_spec _ _ (by omega)) (.cons rfl (.cons rfl .nil)) Try.call22) rfl ?_
      refine TL.run1 (pure_pick_true rfl rfl) rfl ?_
      refine TL.run1 (pure_move rfl) rfl ?_
      first | refine TL.splitP 27 rfl (fun hg27 => ?_) (fun hg27 => ?_) | refine TL.split 27 rfl (fun hg27 => ?_) (fun hg27 => ?_)
      · try dsimp only at hg27
        refine TL.runG rfl rfl (pure_move rfl) rfl ?_
        refine TL.runG rfl rfl (pure_move rfl) rfl ?_
        refine TL.runG rfl rfl (pure_move rfl) rfl ?_
        refine TL.runG rfl rfl (pure_call (RClear_spec _ _ hl) (.cons rfl (.cons rfl .nil)) Try.call38) rfl ?_
        refine TL.runG rfl rfl (pure_call (REqual_spec _ _ (by omega)) (.cons rfl (.cons rfl .nil)) Try.call22) rfl ?_
        refine TL.run1 (pure_pick_true rfl rfl) rfl ?_
        refine TL.run1 (pure_move rfl) rfl ?_
        first | refine TL.splitP 34 rfl (fun hg34 => ?_) (fun hg34 => ?_) | refine TL.split 34 rfl (fun hg34 => ?_) (fun hg34 => ?_)
        · try dsimp only at hg34
          refine TL.runG rfl rfl (pure_move rfl) rfl ?_
          refine TL.runG rfl rfl (pure_call (Ordered_spec _ hs (by omega)) (.cons rfl .nil) Try.call39) rfl ?_
          refine TL.run1 (pure_pick_true rfl rfl) rfl ?_
          refine TL.run1 (pure_assign rfl) rfl ?_
          refine TL.cutEnd (by repeat (first | exact Same.refl _ _ | refine Same.put rfl ?_)) rfl ?_
          first | (simp only [decide_eq_true_eq, Bool.false_eq_true, false_iff, true_iff, iff_true, iff_false, Bool.not_eq_true]; omega) | (simp_all; done) | (simp_all; omega) | grind
        · try dsimp only at hg34
          refine TL.passG rfl rfl rfl rfl ?_
          refine TL.passG rfl rfl rfl rfl ?_
          refine TL.run1 (pure_pick_false rfl rfl) rfl ?_
          refine TL.run1 (pure_assign rfl) rfl ?_
          refine TL.cutEnd (by repeat (first | exact Same.refl _ _ | refine Same.put rfl ?_)) rfl ?_
          first | (simp only [decide_eq_true_eq, Bool.false_eq_true, false_iff, true_iff, iff_true, iff_false, Bool.not_eq_true]; omega) | (simp_all; done) | (simp_all; omega) | grind
      · try dsimp only at hg27
        refine TL.passG rfl rfl rfl rfl ?_
        refine TL.passG rfl rfl rfl rfl ?_
        refine TL.passG rfl rfl rfl rfl ?_
        refine TL.passG rfl rfl rfl rfl ?_
        refine TL.passG rfl rfl rfl rfl ?_
        refine TL.run1 (pure_pick_false rfl rfl) rfl ?_
        refine TL.run1 (pure_move rfl) rfl ?_
        refine TL.passG rfl rfl rfl rfl ?_
        refine TL.passG rfl rfl rfl rfl ?_
        refine TL.run1 (pure_pick_false rfl rfl) rfl ?_
        refine TL.run1 (pure_assign rfl) rfl ?_
        refine TL.cutEnd (by repeat (first | exact Same.refl _ _ | refine Same.put rfl ?_)) rfl ?_
        first | (simp only [decide_eq_true_eq, Bool.false_eq_true, false_iff, true_iff, iff_true, iff_false, Bool.not_eq_true]; omega) | (simp_all; done) | (simp_all; omega) | grind
    · try dsimp only at hg19
      refine TL.passG rfl rfl rfl rfl ?_
      refine TL.passG rfl rfl rfl rfl ?_
      refine TL.passG rfl rfl rfl rfl ?_
      refine TL.passG rfl rfl rfl rfl ?_
      refine TL.passG rfl rfl rfl rfl ?_
      refine TL.passG rfl rfl rfl rfl ?_
      refine TL.run1 (pure_pick_false rfl rfl) rfl ?_
      refine TL.run1 (pure_move rfl) rfl ?_
      refine TL.passG rfl rfl rfl rfl ?_
      refine TL.passG rfl rfl rfl rfl ?_
      refine TL.passG rfl rfl rfl rfl ?_
      refine TL.passG rfl rfl rfl rfl ?_
      refine TL.passG rfl rfl rfl rfl ?_
      refine TL.run1 (pure_pick_false rfl rfl) rfl ?_
      refine TL.run1 (pure_move rfl) rfl ?_
      refine TL.passG rfl rfl rfl rfl ?_
      refine TL.passG rfl rfl rfl rfl ?_
      refine TL.run1 (pure_pick_false rfl rfl) rfl ?_
      refine TL.run1 (pure_assign rfl) rfl ?_
      refine TL.cutEnd (by repeat (first | exact Same.refl _ _ | refine Same.put rfl ?_)) rfl ?_
      first | (simp only [decide_eq_true_eq, Bool.false_eq_true, false_iff, true_iff, iff_true, iff_false, Bool.not_eq_true]; omega) | (simp_all; done) | (simp_all; omega) | grind
  refine TC.ret ?_
  exact ret_bool rfl (by simp)
set_option maxRecDepth 100000 in
theorem PropertyCommutes_spec (l : List (Int × Int)) (x y : Int × Int) (hla : l.length ≤ 9223372036854775807) : Fun Try.prog 10 [.sl 2 (encP l), .agg [.v (.int .i64 x.1), .v (.int .i64 x.2)], .agg [.v (.int .i64 y.1), .v (.int .i64 y.2)]] (.v (.bool true)) := by
  refine Fun.enter (n := 102) (rs := [.tmp 6]) Try.func10 rfl Try.ntmps10 Try.results10 rfl (fun w F => ?_)
  have i0 := ordP_inc l
  have i1 := setP_inc i0 x.1 x.2
  have i2 := setP_inc i0 y.1 y.2
  have i3 := clearP_inc i0 y.1
  have i4 := setP_inc i1 y.1 y.2
  have i5 := clearP_inc i1 y.1
  have i6 := setP_inc i2 x.1 x.2
  have i7 := setP_inc i3 x.1 x.2
  have l0 := ordP_len l
  have l1 := setP_len (ordP l) x.1 x.2
  have l2 := setP_len (ordP l) y.1 y.2
  have l3 := clearP_len (ordP l) y.1
  have l4 := setP_len (setP (ordP l) x.1 x.2) y.1 y.2
  have l5 := clearP_len (setP (ordP l) x.1 x.2) y.1
  have l6 := setP_len (setP (ordP l) y.1 y.2) x.1 x.2
  have l7 := setP_len (clearP (ordP l) y.1) x.1 x.2
  refine TC.seq ?_
  refine TC.region ?_
  refine TL.box rfl (.agg _) rfl (fun g4 => ?_)
  refine TL.box rfl (.agg _) rfl (fun g5 => ?_)
  refine TL.run1 (pure_assign rfl) rfl ?_
  refine TL.nil' ?_
  refine TC.seq ?_
  refine TC.region ?_
  refine TL.run1 (pure_move rfl) rfl ?_
  refine TL.run1 (pure_call (ordered_spec _ hla) (.cons rfl .nil) Try.call20) rfl ?_
  refine TL.run1 (pure_assign rfl) rfl ?_
  refine TL.nil' ?_
  refine TC.seq ?_
  refine TC.regionCut [17, 18, 19, 20, 21, 22, 23, 24, 25] 25 (x.1 = y.1) ?_ ?_
  · skip
    refine TL.run1 (pure_call (known_spec) .nil Try.call14) rfl ?_
    refine TL.run1 (pure_not rfl) rfl ?_
    refine TL.run1 (pure_move rfl) rfl ?_
    first | refine TL.splitP 19 rfl (fun hg19 => ?_) (fun hg19 => ?_) | refine TL.split 19 rfl (fun hg19 => ?_) (fun hg19 => ?_)
    · try dsimp only at hg19
      refine TL.passG rfl rfl rfl rfl ?_
      refine TL.passG rfl rfl rfl rfl ?_
      refine TL.passG rfl rfl rfl rfl ?_
      refine TL.passG rfl rfl rfl rfl ?_
      refine TL.passG rfl rfl rfl rfl ?_
      refine TL.run1 (pure_pick_true rfl rfl) rfl ?_
      refine TL.cutEnd (by repeat (first | exact Same.refl _ _ | refine Same.put rfl ?_)) rfl ?_
      first | (simp only [decide_eq_true_eq, Bool.false_eq_true, false_iff, true_iff, iff_true, iff_false, Bool.not_eq_true]; omega) | (simp_all; done) | (simp_all; omega) | grind
    · try dsimp only at hg19
      first | refine TL.runG rfl rfl (pure_fieldAddr Ty.f59_0 rfl (.zero _) (List.cons_ne_nil _ _)) rfl ?_ | refine TL.runG rfl rfl (pure_fieldAddr_own Ty.f59_0 rfl) rfl ?_
      first | refine TL.runG rfl rfl (pure_load1 Ty.one3 rfl) rfl ?_ | refine TL.runG rfl rfl (pure_load1_own Ty.one3 rfl (by repeat (first | exact List.Mem.head _ | apply List.Mem.tail)) (by repeat (first | exact DropR.zero _ | apply DropR.succ))) rfl ?_
      first | refine TL.runG rfl rfl (pure_fieldAddr Ty.f59_0 rfl (.zero _) (List.cons_ne_nil _ _)) rfl ?_ | refine TL.runG rfl rfl (pure_fieldAddr_own Ty.f59_0 rfl) rfl ?_
      first | refine TL.runG rfl rfl (pure_load1 Ty.one3 rfl) rfl ?_ | refine TL.runG rfl rfl (pure_load1_own Ty.one3 rfl (by repeat (first | exact List.Mem.head _ | apply List.Mem.tail)) (by repeat (first | exact DropR.zero _ | apply DropR.succ))) rfl ?_
      refine TL.runG rfl rfl (pure_eql rfl rfl) rfl ?_
      refine TL.run1 (pure_pick_false rfl rfl) rfl ?_
      refine TL.cutEnd (by repeat (first | exact Same.refl _ _ | refine Same.put rfl ?_)) rfl ?_
      first | (simp only [decide_eq_true_eq, Bool.false_eq_true, false_iff, true_iff, iff_true, iff_false, Bool.not_eq_true]; omega) | (simp_all; done) | (simp_all; omega) | grind
  first | refine TC.condD rfl (fun hc25 => ?_) (fun hc25 => ?_) | refine TC.condN rfl (fun hc25 => ?_) (fun hc25 => ?_) | refine TC.cond rfl (fun hc25 => ?_) (fun hc25 => ?_)
  · try dsimp only at hc25
    refine TC.seq ?_
    refine TC.region ?_
    refine TL.run1 (pure_call (known_spec) .nil Try.call14) rfl ?_
    refine TL.run1 (pure_assign rfl) rfl ?_
    refine TL.nil' ?_
    refine TC.ret ?_
    refine then_ret ?_
    exact ret_bool rfl rfl
  · try dsimp only at hc25
    have e1 : (setP (setP (ordP l) x.1 x.2) y.1 y.2) = (setP (setP (ordP l) y.1 y.2) x.1 x.2) := lookP_ext _ _ i4 i6 fun k => by (rw [setP_look, setP_look, setP_look, setP_look]; by_cases h1 : k = y.1; (rw [if_pos h1, if_neg (by omega), if_pos h1]); (rw [if_neg h1, if_neg h1]))
    have e2 : (clearP (setP (ordP l) x.1 x.2) y.1) = (setP (clearP (ordP l) y.1) x.1 x.2) := lookP_ext _ _ i5 i7 fun k => by (rw [clearP_look, setP_look, setP_look, clearP_look]; by_cases h1 : k = y.1; (rw [if_pos h1, if_neg (by omega), if_pos h1]); (rw [if_neg h1, if_neg h1]))
    have g1 : lookP (setP (setP (ordP l) x.1 x.2) y.1 y.2) x.1 = some x.2 := by rw [setP_look, if_neg hc25, setP_look, if_pos rfl]
    have g2 : lookP (clearP (setP (ordP l) x.1 x.2) y.1) y.1 = none := by rw [clearP_look, if_pos rfl]
    have g3 := in_look i4 x.1
    have g4 := in_look i5 y.1
    have g5 := getP_look (setP (setP (ordP l) x.1 x.2) y.1 y.2) x.1 0
    rw [g1] at g3 g5
    rw [g2] at g4
    refine TC.skip' ?_
    refine TC.seq ?_
    refine TC.draw Ty.follows (by kernel_rfl) ?_
    refine TD.run1 (pure_move rfl) rfl ?_
    first | refine TD.run1 (pure_fieldAddr Ty.f59_0 rfl (.zero _) (List.cons_ne_nil _ _)) rfl ?_ | refine TD.run1 (pure_fieldAddr_own Ty.f59_0 rfl) rfl ?_
    first | refine TD.run1 (pure_load1 Ty.one3 rfl) rfl ?_ | refine TD.run1 (pure_load1_own Ty.one3 rfl (by repeat (first | exact List.Mem.head _ | apply List.Mem.tail)) (by repeat (first | exact DropR.zero _ | apply DropR.succ))) rfl ?_
    first | refine TD.run1 (pure_fieldAddr Ty.f59_1 rfl (.succ (.zero _)) (List.cons_ne_nil _ _)) rfl ?_ | refine TD.run1 (pure_fieldAddr_own Ty.f59_1 rfl) rfl ?_
    first | refine TD.run1 (pure_load1 Ty.one3 rfl) rfl ?_ | refine TD.run1 (pure_load1_own Ty.one3 rfl (by repeat (first | exact List.Mem.head _ | apply List.Mem.tail)) (by repeat (first | exact DropR.zero _ | apply DropR.succ))) rfl ?_
    first | refine TD.run1 (pure_call (Set_spec (ordP l) x.1 x.2 i0 (by omega)) (.cons rfl (.cons rfl (.cons rfl .nil))) Try.call35) rfl ?_ | refine TD.run1 (pure_call (Set_spec (ordP l) y.1 y.2 i0 (by omega)) (.cons rfl (.cons rfl (.cons rfl .nil))) Try.call35) rfl ?_ | refine TD.run1 (pure_call (Set_spec (setP (ordP l) x.1 x.2) y.1 y.2 i1 (by omega)) (.cons rfl (.cons rfl (.cons rfl .nil))) Try.call35) rfl ?_ | refine TD.run1 (pure_call (Set_spec (setP (ordP l) y.1 y.2) x.1 x.2 i2 (by omega)) (.cons rfl (.cons rfl (.cons rfl .nil))) Try.call35) rfl ?_ | refine TD.run1 (pure_call (Set_spec (clearP (ordP l) y.1) x.1 x.2 i3 (by omega)) (.cons rfl (.cons rfl (.cons rfl .nil))) Try.call35) rfl ?_
    first | refine TD.run1 (pure_fieldAddr Ty.f59_0 rfl (.zero _) (List.cons_ne_nil _ _)) rfl ?_ | refine TD.run1 (pure_fieldAddr_own Ty.f59_0 rfl) rfl ?_
    first | refine TD.run1 (pure_load1 Ty.one3 rfl) rfl ?_ | refine TD.run1 (pure_load1_own Ty.one3 rfl (by repeat (first | exact List.Mem.head _ | apply List.Mem.tail)) (by repeat (first | exact DropR.zero _ | apply DropR.succ))) rfl ?_
    first | refine TD.run1 (pure_fieldAddr Ty.f59_1 rfl (.succ (.zero _)) (List.cons_ne_nil _ _)) rfl ?_ | refine TD.run1 (pure_fieldAddr_own Ty.f59_1 rfl) rfl ?_
    first | refine TD.run1 (pure_load1 Ty.one3 rfl) rfl ?_ | refine TD.run1 (pure_load1_own Ty.one3 rfl (by repeat (first | exact List.Mem.head _ | apply List.Mem.tail)) (by repeat (first | exact DropR.zero _ | apply DropR.succ))) rfl ?_
    first | refine TD.run1 (pure_call (Set_spec (ordP l) x.1 x.2 i0 (by omega)) (.cons rfl (.cons rfl (.cons rfl .nil))) Try.call35) rfl ?_ | refine TD.run1 (pure_call (Set_spec (ordP l) y.1 y.2 i0 (by omega)) (.cons rfl (.cons rfl (.cons rfl .nil))) Try.call35) rfl ?_ | refine TD.run1 (pure_call (Set_spec (setP (ordP l) x.1 x.2) y.1 y.2 i1 (by omega)) (.cons rfl (.cons rfl (.cons rfl .nil))) Try.call35) rfl ?_ | refine TD.run1 (pure_call (Set_spec (setP (ordP l) y.1 y.2) x.1 x.2 i2 (by omega)) (.cons rfl (.cons rfl (.cons rfl .nil))) Try.call35) rfl ?_ | refine TD.run1 (pure_call (Set_spec (clearP (ordP l) y.1) x.1 x.2 i3 (by omega)) (.cons rfl (.cons rfl (.cons rfl .nil))) Try.call35) rfl ?_
    refine TD.run1 (pure_assign rfl) rfl ?_
    refine TD.nil' ?_
    refine TC.seq ?_
    refine TC.draw Ty.follows (by kernel_rfl) ?_
    refine TD.run1 (pure_move rfl) rfl ?_
    first | refine TD.run1 (pure_fieldAddr Ty.f59_0 rfl (.zero _) (List.cons_ne_nil _ _)) rfl ?_ | refine TD.run1 (pure_fieldAddr_own Ty.f59_0 rfl) rfl ?_
    first | refine TD.run1 (pure_load1 Ty.one3 rfl) rfl ?_ | refine TD.run1 (pure_load1_own Ty.one3 rfl (by repeat (first | exact List.Mem.head _ | apply List.Mem.tail)) (by repeat (first | exact DropR.zero _ | apply DropR.succ))) rfl ?_
    first | refine TD.run1 (pure_fieldAddr Ty.f59_1 rfl (.succ (.zero _)) (List.cons_ne_nil _ _)) rfl ?_ | refine TD.run1 (pure_fieldAddr_own Ty.f59_1 rfl) rfl ?_
    first | refine TD.run1 (pure_load1 Ty.one3 rfl) rfl ?_ | refine TD.run1 (pure_load1_own Ty.one3 rfl (by repeat (first | exact List.Mem.head _ | apply List.Mem.tail)) (by repeat (first | exact DropR.zero _ | apply DropR.succ))) rfl ?_
    first | refine TD.run1 (pure_call (Set_spec (ordP l) x.1 x.2 i0 (by omega)) (.cons rfl (.cons rfl (.cons rfl .nil))) Try.call35) rfl ?_ | refine TD.run1 (pure_call (Set_spec (ordP l) y.1 y.2 i0 (by omega)) (.cons rfl (.cons rfl (.cons rfl .nil))) Try.call35) rfl ?_ | refine TD.run1 (pure_call (Set_spec (setP (ordP l) x.1 x.2) y.1 y.2 i1 (by omega)) (.cons rfl (.cons rfl (.cons rfl .nil))) Try.call35) rfl ?_ | refine TD.run1 (pure_call (Set_spec (setP (ordP l) y.1 y.2) x.1 x.2 i2 (by omega)) (.cons rfl (.cons rfl (.cons rfl .nil))) Try.call35) rfl ?_ | refine TD.run1 (pure_call (Set_spec (clearP (ordP l) y.1) x.1 x.2 i3 (by omega)) (.cons rfl (.cons rfl (.cons rfl .nil))) Try.call35) rfl ?_
    first | refine TD.run1 (pure_fieldAddr Ty.f59_0 rfl (.zero _) (List.cons_ne_nil _ _)) rfl ?_ | refine TD.run1 (pure_fieldAddr_own Ty.f59_0 rfl) rfl ?_
    first | refine TD.run1 (pure_load1 Ty.one3 rfl) rfl ?_ | refine TD.run1 (pure_load1_own Ty.one3 rfl (by repeat (first | exact List.Mem.head _ | apply List.Mem.tail)) (by repeat (first | exact DropR.zero _ | apply DropR.succ))) rfl ?_
    first | refine TD.run1 (pure_fieldAddr Ty.f59_1 rfl (.succ (.zero _)) (List.cons_ne_nil _ _)) rfl ?_ | refine TD.run1 (pure_fieldAddr_own Ty.f59_1 rfl) rfl ?_
    first | refine TD.run1 (pure_load1 Ty.one3 rfl) rfl ?_ | refine TD.run1 (pure_load1_own Ty.one3 rfl (by repeat (first | exact List.Mem.head _ | apply List.Mem.tail)) (by repeat (first | exact DropR.zero _ | apply DropR.succ))) rfl ?_
    first | refine TD.run1 (pure_call (Set_spec (ordP l) x.1 x.2 i0 (by omega)) (.cons rfl (.cons rfl (.cons rfl .nil))) Try.call35) rfl ?_ | refine TD.run1 (pure_call (Set_spec (ordP l) y.1 y.2 i0 (by omega)) (.cons rfl (.cons rfl (.cons rfl .nil))) Try.call35) rfl ?_ | refine TD.run1 (pure_call (Set_spec (setP (ordP l) x.1 x.2) y.1 y.2 i1 (by omega)) (.cons rfl (.cons rfl (.cons rfl .nil))) Try.call35) rfl ?_ | refine TD.run1 (pure_call (Set_spec (setP (ordP l) y.1 y.2) x.1 x.2 i2 (by omega)) (.cons rfl (.cons rfl (.cons rfl .nil))) Try.call35) rfl ?_ | refine TD.run1 (pure_call (Set_spec (clearP (ordP l) y.1) x.1 x.2 i3 (by omega)) (.cons rfl (.cons rfl (.cons rfl .nil))) Try.call35) rfl ?_
    refine TD.run1 (pure_assign rfl) rfl ?_
    refine TD.nil' ?_
    refine TC.seq ?_
    refine TC.draw Ty.follows (by kernel_rfl) ?_
    refine TD.run1 (pure_move rfl) rfl ?_
    first | refine TD.run1 (pure_fieldAddr Ty.f59_0 rfl (.zero _) (List.cons_ne_nil _ _)) rfl ?_ | refine TD.run1 (pure_fieldAddr_own Ty.f59_0 rfl) rfl ?_
    first | refine TD.run1 (pure_load1 Ty.one3 rfl) rfl ?_ | refine TD.run1 (pure_load1_own Ty.one3 rfl (by repeat (first | exact List.Mem.head _ | apply List.Mem.tail)) (by repeat (first | exact DropR.zero _ | apply DropR.succ))) rfl ?_
    first | refine TD.run1 (pure_fieldAddr Ty.f59_1 rfl (.succ (.zero _)) (List.cons_ne_nil _ _)) rfl ?_ | refine TD.run1 (pure_fieldAddr_own Ty.f59_1 rfl) rfl ?_
    first | refine TD.run1 (pure_load1 Ty.one3 rfl) rfl ?_ | refine TD.run1 (pure_load1_own Ty.one3 rfl (by repeat (first | exact List.Mem.head _ | apply List.Mem.tail)) (by repeat (first | exact DropR.zero _ | apply DropR.succ))) rfl ?_
    first | refine TD.run1 (pure_call (Set_spec (ordP l) x.1 x.2 i0 (by omega)) (.cons rfl (.cons rfl (.cons rfl .nil))) Try.call35) rfl ?_ | refine TD.run1 (pure_call (Set_spec (ordP l) y.1 y.2 i0 (by omega)) (.cons rfl (.cons rfl (.cons rfl .nil))) Try.call35) rfl ?_ | refine TD.run1 (pure_call (Set_spec (setP (ordP l) x.1 x.2) y.1 y.2 i1 (by omega)) (.cons rfl (.cons rfl (.cons rfl .nil))) Try.call35) rfl ?_ | refine TD.run1 (pure_call (Set_spec (setP (ordP l) y.1 y.2) x.1 x.2 i2 (by omega)) (.cons rfl (.cons rfl (.cons rfl .nil))) Try.call35) rfl ?_ | refine TD.run1 (pure_call (Set_spec (clearP (ordP l) y.1) x.1 x.2 i3 (by omega)) (.cons rfl (.cons rfl (.cons rfl .nil))) Try.call35) rfl ?_
    first | refine TD.run1 (pure_fieldAddr Ty.f59_0 rfl (.zero _) (List.cons_ne_nil _ _)) rfl ?_ | refine TD.run1 (pure_fieldAddr_own Ty.f59_0 rfl) rfl ?_
    first | refine TD.run1 (pure_load1 Ty.one3 rfl) rfl ?_ | refine TD.run1 (pure_load1_own Ty.one3 rfl (by repeat (first | exact List.Mem.head _ | apply List.Mem.tail)) (by repeat (first | exact DropR.zero _ | apply DropR.succ))) rfl ?_
    first | refine TD.run1 (pure_call (Clear_spec (ordP l) y.1 i0 (by omega)) (.cons rfl (.cons rfl .nil)) Try.call36) rfl ?_ | refine TD.run1 (pure_call (Clear_spec (setP (ordP l) x.1 x.2) y.1 i1 (by omega)) (.cons rfl (.cons rfl .nil)) Try.call36) rfl ?_
    refine TD.run1 (pure_assign rfl) rfl ?_
    refine TD.nil' ?_
    refine TC.seq ?_
    refine TC.draw Ty.follows (by kernel_rfl) ?_
    refine TD.run1 (pure_move rfl) rfl ?_
    first | refine TD.run1 (pure_fieldAddr Ty.f59_0 rfl (.zero _) (List.cons_ne_nil _ _)) rfl ?_ | refine TD.run1 (pure_fieldAddr_own Ty.f59_0 rfl) rfl ?_
    first | refine TD.run1 (pure_load1 Ty.one3 rfl) rfl ?_ | refine TD.run1 (pure_load1_own Ty.one3 rfl (by repeat (first | exact List.Mem.head _ | apply List.Mem.tail)) (by repeat (first | exact DropR.zero _ | apply DropR.succ))) rfl ?_
    first | refine TD.run1 (pure_call (Clear_spec (ordP l) y.1 i0 (by omega)) (.cons rfl (.cons rfl .nil)) Try.call36) rfl ?_ | refine TD.run1 (pure_call (Clear_spec (setP (ordP l) x.1 x.2) y.1 i1 (by omega)) (.cons rfl (.cons rfl .nil)) Try.call36) rfl ?_
    first | refine TD.run1 (pure_fieldAddr Ty.f59_0 rfl (.zero _) (List.cons_ne_nil _ _)) rfl ?_ | refine TD.run1 (pure_fieldAddr_own Ty.f59_0 rfl) rfl ?_
    first | refine TD.run1 (pure_load1 Ty.one3 rfl) rfl ?_ | refine TD.run1 (pure_load1_own Ty.one3 rfl (by repeat (first | exact List.Mem.head _ | apply List.Mem.tail)) (by repeat (first | exact DropR.zero _ | apply DropR.succ))) rfl ?_
    first | refine TD.run1 (pure_fieldAddr Ty.f59_1 rfl (.succ (.zero _)) (List.cons_ne_nil _ _)) rfl ?_ | refine TD.run1 (pure_fieldAddr_own Ty.f59_1 rfl) rfl ?_
    first | refine TD.run1 (pure_load1 Ty.one3 rfl) rfl ?_ | refine TD.run1 (pure_load1_own Ty.one3 rfl (by repeat (first | exact List.Mem.head _ | apply List.Mem.tail)) (by repeat (first | exact DropR.zero _ | apply DropR.succ))) rfl ?_
    first | refine TD.run1 (pure_call (Set_spec (ordP l) x.1 x.2 i0 (by omega)) (.cons rfl (.cons rfl (.cons rfl .nil))) Try.call35) rfl ?_ | refine TD.run1 (pure_call (Set_spec (ordP l) y.1 y.2 i0 (by omega)) (.cons rfl (.cons rfl (.cons rfl .nil))) Try.call35) rfl ?_ | refine TD.run1 (pure_call (Set_spec (setP (ordP l) x.1 x.2) y.1 y.2 i1 (by omega)) (.cons rfl (.cons rfl (.cons rfl .nil))) Try.call35) rfl ?_ | refine TD.run1 (pure_call (Set_spec (setP (ordP l) y.1 y.2) x.1 x.2 i2 (by omega)) (.cons rfl (.cons rfl (.cons rfl .nil))) Try.call35) rfl ?_ | refine TD.run1 (pure_call (Set_spec (clearP (ordP l) y.1) x.1 x.2 i3 (by omega)) (.cons rfl (.cons rfl (.cons rfl .nil))) Try.call35) rfl ?_
    refine TD.run1 (pure_assign rfl) rfl ?_
    refine TD.nil' ?_
    refine TC.seq ?_
    refine TC.region ?_
    refine TL.run1 (pure_move rfl) rfl ?_
    first | refine TL.run1 (pure_fieldAddr Ty.f59_0 rfl (.zero _) (List.cons_ne_nil _ _)) rfl ?_ | refine TL.run1 (pure_fieldAddr_own Ty.f59_0 rfl) rfl ?_
    first | refine TL.run1 (pure_load1 Ty.one3 rfl) rfl ?_ | refine TL.run1 (pure_load1_own Ty.one3 rfl (by repeat (first | exact List.Mem.head _ | apply List.Mem.tail)) (by repeat (first | exact DropR.zero _ | apply DropR.succ))) rfl ?_
    first | refine TL.run1 (pure_call (getPr_spec (setP (setP (ordP l) x.1 x.2) y.1 y.2) x.1 i4 (by omega)) (.cons rfl (.cons rfl .nil)) Try.call28) rfl ?_ | refine TL.run1 (pure_call (getPr_spec (clearP (setP (ordP l) x.1 x.2) y.1) y.1 i5 (by omega)) (.cons rfl (.cons rfl .nil)) Try.call28) rfl ?_
    refine TL.run1 (pure_move rfl) rfl ?_
    refine TL.run1 (pure_extract rfl rfl) rfl ?_
    refine TL.run1 (pure_extract rfl rfl) rfl ?_
    refine TL.run1 (pure_assign rfl) rfl ?_
    refine TL.run1 (pure_assign rfl) rfl ?_
    refine TL.nil' ?_
    refine TC.seq ?_
    refine TC.region ?_
    refine TL.run1 (pure_move rfl) rfl ?_
    first | refine TL.run1 (pure_fieldAddr Ty.f59_0 rfl (.zero _) (List.cons_ne_nil _ _)) rfl ?_ | refine TL.run1 (pure_fieldAddr_own Ty.f59_0 rfl) rfl ?_
    first | refine TL.run1 (pure_load1 Ty.one3 rfl) rfl ?_ | refine TL.run1 (pure_load1_own Ty.one3 rfl (by repeat (first | exact List.Mem.head _ | apply List.Mem.tail)) (by repeat (first | exact DropR.zero _ | apply DropR.succ))) rfl ?_
    first | refine TL.run1 (pure_call (getPr_spec (setP (setP (ordP l) x.1 x.2) y.1 y.2) x.1 i4 (by omega)) (.cons rfl (.cons rfl .nil)) Try.call28) rfl ?_ | refine TL.run1 (pure_call (getPr_spec (clearP (setP (ordP l) x.1 x.2) y.1) y.1 i5 (by omega)) (.cons rfl (.cons rfl .nil)) Try.call28) rfl ?_
    refine TL.run1 (pure_move rfl) rfl ?_
    refine TL.run1 (pure_extract rfl rfl) rfl ?_
    refine TL.run1 (pure_extract rfl rfl) rfl ?_
    refine TL.run1 (pure_assign rfl) rfl ?_
    refine TL.run1 (pure_assign rfl) rfl ?_
    refine TL.nil' ?_
    rw [g3, g4, g5]
    rw [e1, e2]
    clear g1 g2 g3 g4 g5 e1 e2 i0 i1 i2 i3 i4 i5 i6 i7
    refine TC.regionCut [81, 82, 83, 84, 85, 86, 87, 88, 89, 90, 91, 92, 93, 94, 95, 96, 97, 98, 99, 100, 101, 6] 6 (True) ?_ ?_
    · skip
      refine TL.run1 (pure_move rfl) rfl ?_
      refine TL.run1 (pure_move rfl) rfl ?_
      refine TL.run1 (pure_call (Equal_spec _ _ (by omega)) (.cons rfl (.cons rfl .nil)) Try.call40) rfl ?_
      refine TL.run1 (pure_move rfl) rfl ?_
      first | refine TL.splitP 84 rfl (fun hg84 => ?_) (fun hg84 => ?_) | refine TL.split 84 rfl (fun hg84 => ?_) (fun hg84 => ?_)
      · try dsimp only at hg84
        refine TL.runG rfl rfl (pure_move rfl) rfl ?_
        refine TL.runG rfl rfl (pure_move rfl) rfl ?_
        refine TL.runG rfl rfl (pure_call (Equal_spec _ _ (by omega)) (.cons rfl (.cons rfl .nil)) Try.call40) rfl ?_
        refine TL.run1 (pure_pick_true rfl rfl) rfl ?_
        refine TL.run1 (pure_move rfl) rfl ?_
        first | refine TL.splitP 89 rfl (fun hg89 => ?_) (fun hg89 => ?_) | refine TL.split 89 rfl (fun hg89 => ?_) (fun hg89 => ?_)
        · try dsimp only at hg89
          refine TL.runG rfl rfl (pure_move rfl) rfl ?_
          refine TL.run1 (pure_pick_true rfl rfl) rfl ?_
          refine TL.run1 (pure_move rfl) rfl ?_
          first | refine TL.splitP 92 rfl (fun hg92 => ?_) (fun hg92 => ?_) | refine TL.split 92 rfl (fun hg92 => ?_) (fun hg92 => ?_)
          · try dsimp only at hg92
            refine TL.runG rfl rfl (pure_move rfl) rfl ?_
            first | refine TL.runG rfl rfl (pure_fieldAddr Ty.f59_1 rfl (.succ (.zero _)) (List.cons_ne_nil _ _)) rfl ?_ | refine TL.runG rfl rfl (pure_fieldAddr_own Ty.f59_1 rfl) rfl ?_
            first | refine TL.runG rfl rfl (pure_load1 Ty.one3 rfl) rfl ?_ | refine TL.runG rfl rfl (pure_load1_own Ty.one3 rfl (by repeat (first | exact List.Mem.head _ | apply List.Mem.tail)) (by repeat (first | exact DropR.zero _ | apply DropR.succ))) rfl ?_
            refine TL.runG rfl rfl (pure_eql rfl rfl) rfl ?_
            refine TL.run1 (pure_pick_true rfl rfl) rfl ?_
            refine TL.run1 (pure_move rfl) rfl ?_
            first | refine TL.splitP 98 rfl (fun hg98 => ?_) (fun hg98 => ?_) | refine TL.split 98 rfl (fun hg98 => ?_) (fun hg98 => ?_)
            · try dsimp only at hg98
              refine TL.runG rfl rfl (pure_move rfl) rfl ?_
              refine TL.runG rfl rfl (pure_not rfl) rfl ?_
              refine TL.run1 (pure_pick_true rfl rfl) rfl ?_
              refine TL.run1 (pure_assign rfl) rfl ?_
              refine TL.cutEnd (by repeat (first | exact Same.refl _ _ | refine Same.put rfl ?_)) rfl ?_
              first | (simp_all; done) | grind
            · try dsimp only at hg98
              refine TL.passG rfl rfl rfl rfl ?_
              refine TL.passG rfl rfl rfl rfl ?_
              refine TL.run1 (pure_pick_false rfl rfl) rfl ?_
              refine TL.run1 (pure_assign rfl) rfl ?_
              refine TL.cutEnd (by repeat (first | exact Same.refl _ _ | refine Same.put rfl ?_)) rfl ?_
              first | (simp_all; done) | grind
          · try dsimp only at hg92
            refine TL.passG rfl rfl rfl rfl ?_
            refine TL.passG rfl rfl rfl rfl ?_
            refine TL.passG rfl rfl rfl rfl ?_
            refine TL.passG rfl rfl rfl rfl ?_
            refine TL.run1 (pure_pick_false rfl rfl) rfl ?_
            refine TL.run1 (pure_move rfl) rfl ?_
            refine TL.passG rfl rfl rfl rfl ?_
            refine TL.passG rfl rfl rfl rfl ?_
            refine TL.run1 (pure_pick_false rfl rfl) rfl ?_
            refine TL.run1 (pure_assign rfl) rfl ?_
            refine TL.cutEnd (by repeat (first | exact Same.refl _ _ | refine Same.put rfl ?_)) rfl ?_
            first | (simp_all; done) | grind
        · try dsimp only at hg89
          refine TL.passG rfl rfl rfl rfl ?_
          refine TL.run1 (pure_pick_false rfl rfl) rfl ?_
          refine TL.run1 (pure_move rfl) rfl ?_
          refine TL.passG rfl rfl rfl rfl ?_
          refine TL.passG rfl rfl rfl rfl ?_
          refine TL.passG rfl rfl rfl rfl ?_
          refine TL.passG rfl rfl rfl rfl ?_
          refine TL.run1 (pure_pick_false rfl rfl) rfl ?_
          refine TL.run1 (pure_move rfl) rfl ?_
          refine TL.passG rfl rfl rfl rfl ?_
          refine TL.passG rfl rfl rfl rfl ?_
          refine TL.run1 (pure_pick_false rfl rfl) rfl ?_
          refine TL.run1 (pure_assign rfl) rfl ?_
          refine TL.cutEnd (by repeat (first | exact Same.refl _ _ | refine Same.put rfl ?_)) rfl ?_
          first | (simp_all; done) | grind
      · try dsimp only at hg84
        refine TL.passG rfl rfl rfl rfl ?_
        refine TL.passG rfl rfl rfl rfl ?_
        refine TL.passG rfl rfl rfl rfl ?_
        refine TL.run1 (pure_pick_false rfl rfl) rfl ?_
        refine TL.run1 (pure_move rfl) rfl ?_
        refine TL.passG rfl rfl rfl rfl ?_
        refine TL.run1 (pure_pick_false rfl rfl) rfl ?_
        refine TL.run1 (pure_move rfl) rfl ?_
        refine TL.passG rfl rfl rfl rfl ?_
        refine TL.passG rfl rfl rfl rfl ?_
        refine TL.passG rfl rfl rfl rfl ?_
        refine TL.passG rfl rfl rfl rfl ?_
        refine TL.run1 (pure_pick_false rfl rfl) rfl ?_
        refine TL.run1 (pure_move rfl) rfl ?_
        refine TL.passG rfl rfl rfl rfl ?_
        refine TL.passG rfl rfl rfl rfl ?_
        refine TL.run1 (pure_pick_false rfl rfl) rfl ?_
        refine TL.run1 (pure_assign rfl) rfl ?_
        refine TL.cutEnd (by repeat (first | exact Same.refl _ _ | refine Same.put rfl ?_)) rfl ?_
        first | (simp_all; done) | grind
    refine TC.ret ?_
    exact ret_bool rfl (by simp)
set_option maxRecDepth 100000 in
theorem PropertyApplies_spec (l : List (Int × Int)) (cs : List Ch) (hla : l.length ≤ 9223372036854775807) : Fun Try.prog 11 [.sl 2 (encP l), .sl 5 (encD cs)] (.v (.bool true)) := by
  refine Fun.enter (n := 96) (rs := [.tmp 4]) Try.func11 rfl Try.ntmps11 Try.results11 rfl (fun w F => ?_)
  have hi := ordP_inc l
  have hol := ordP_len l
  have hct : (cs.take 20).length ≤ 20 := by rw [List.length_take]; omega
  refine TC.seq ?_
  refine TC.region ?_
  refine TL.run1 (pure_assign rfl) rfl ?_
  refine TL.nil' ?_
  refine TC.seq ?_
  refine TC.draw Ty.follows (by kernel_rfl) ?_
  refine TD.run1 (pure_move rfl) rfl ?_
  refine TD.run1 (pure_call (ordered_spec _ hla) (.cons rfl .nil) Try.call20) rfl ?_
  refine TD.run1 (pure_move rfl) rfl ?_
  refine TD.run1 (pure_move rfl) rfl ?_
  first | refine TD.run1 (pure_len Ty.sl61 rfl) rfl ?_ | refine TD.run1 (pure_len_row Ty.sl61 rfl (by repeat (first | exact List.Mem.head _ | apply List.Mem.tail))) rfl ?_ | refine TD.run1 (pure_len_nil Ty.sl61 rfl) rfl ?_
  refine TD.run1 (pure_min rfl rfl) rfl ?_
  refine TD.run1 (pure_slice (l := 0) (h := min (encD cs).length 20) Ty.sl61 rfl rfl (castI (by omega)) (by omega) (by omega)) rfl ?_
  refine TD.run1 (pure_assign rfl) rfl ?_
  refine TD.run1 (pure_assign rfl) rfl ?_
  refine TD.nil' ?_
  refine TC.seq ?_
  rw [show List.drop 0 (List.take (min (encD cs).length 20) (encD cs)) = encD (cs.take 20) from by rw [List.drop_zero, encD_take, encD_len]; congr 1; rw [List.take_eq_take_iff]; omega]
  refine TC.region ?_
  refine TL.run1 (pure_move rfl) rfl ?_
  refine TL.run1 (pure_move rfl) rfl ?_
  refine TL.run1 (pure_call (Apply_spec (ordP l) (cs.take 20) hi (by omega)) (.cons rfl (.cons rfl .nil)) Try.call41) rfl ?_
  refine TL.run1 (pure_move rfl) rfl ?_
  refine TL.run1 (pure_extract rfl rfl) rfl ?_
  refine TL.run1 (pure_extract rfl rfl) rfl ?_
  refine TL.run1 (pure_assign rfl) rfl ?_
  refine TL.run1 (pure_assign rfl) rfl ?_
  refine TL.nil' ?_
  refine TC.seq ?_
  refine TC.region ?_
  refine TL.run1 (pure_move rfl) rfl ?_
  refine TL.run1 (pure_assign rfl) rfl ?_
  refine TL.run1 (pure_assign rfl) rfl ?_
  refine TL.nil' ?_
  refine TC.seq ?_
  refine TC.seq ?_
  refine TC.region ?_
  refine TL.run1 (pure_assign rfl) rfl ?_
  refine TL.nil' ?_
  refine TC.block ?_
  refine TC.loopX (X := Int × List (Int × Int) × Bool) (fun (i, x, f) => [(1, .sl 5 (encD (cs.take 20))), (5, .sl 2 (encP ((applyAll (ordP l) (cs.take 20)).getD []))), (6, .v (.int .i64 (if (applyAll (ordP l) (cs.take 20)).isSome = true then 0 else 23))), (7, .sl 2 (encP x)), (8, .v (.bool f)), (9, .v (.int .i64 i))]) (fun (i, x, f) => []) (fun (i, x, f) => (0 ≤ i) ∧ (i ≤ (cs.take 20).length) ∧ (f = true → applyAll (ordP l) ((cs.take 20).take i.toNat) = some x) ∧ (f = false → (applyAll (ordP l) (cs.take 20)) = none) ∧ (Inc (keysP x)) ∧ ((x.length : Int) ≤ (ordP l).length + i)) (fun (i, x, f) => ((cs.take 20).length - i).toNat) (0, (ordP l), true) ⟨by skip; repeat (first | exact Agree.nil | refine Agree.cons rfl ?_), by skip; repeat (first | exact List.nil_sublist _ | exact List.Sublist.refl _ | apply List.Sublist.cons_cons | apply List.Sublist.cons)⟩ ?_ ?_
  · skip
    exact ⟨by omega, by omega, fun _ => rfl, fun h => (by cases h), hi, by omega⟩
  rintro ⟨i, x, f⟩
  rintro ⟨h0, h1, h2, h3, h4, h5⟩
  show TC _ _ _ (Env.of [(1, .sl 5 (encD (cs.take 20))), (5, .sl 2 (encP ((applyAll (ordP l) (cs.take 20)).getD []))), (6, .v (.int .i64 (if (applyAll (ordP l) (cs.take 20)).isSome = true then 0 else 23))), (7, .sl 2 (encP x)), (8, .v (.bool f)), (9, .v (.int .i64 i))]) []
  have hkt := encD_len (cs.take 20)
  refine TC.seq ?_
  refine TC.regionCut [27, 28, 29, 30, 31, 32, 33] 33 (i < (cs.take 20).length ∧ f = true) ?_ ?_
  · skip
    refine TL.run1 (pure_move rfl) rfl ?_
    refine TL.run1 (pure_move rfl) rfl ?_
    first | refine TL.run1 (pure_len Ty.sl61 rfl) rfl ?_ | refine TL.run1 (pure_len_row Ty.sl61 rfl (by repeat (first | exact List.Mem.head _ | apply List.Mem.tail))) rfl ?_ | refine TL.run1 (pure_len_nil Ty.sl61 rfl) rfl ?_
    refine TL.run1 (pure_lss rfl rfl) rfl ?_
    refine TL.run1 (pure_move rfl) rfl ?_
    first | refine TL.splitP 31 rfl (fun hg31 => ?_) (fun hg31 => ?_) | refine TL.split 31 rfl (fun hg31 => ?_) (fun hg31 => ?_)
    · try dsimp only at hg31
      refine TL.runG rfl rfl (pure_move rfl) rfl ?_
      refine TL.run1 (pure_pick_true rfl rfl) rfl ?_
      refine TL.cutEnd (by repeat (first | exact Same.refl _ _ | refine Same.put rfl ?_)) rfl ?_
      first | (simp only [decide_eq_true_eq, Bool.false_eq_true, false_iff, true_iff, iff_true, iff_false, Bool.not_eq_true]; omega) | (simp_all; done) | (simp_all; omega) | grind
    · try dsimp only at hg31
      refine TL.passG rfl rfl rfl rfl ?_
      refine TL.run1 (pure_pick_false rfl rfl) rfl ?_
      refine TL.cutEnd (by repeat (first | exact Same.refl _ _ | refine Same.put rfl ?_)) rfl ?_
      first | (simp only [decide_eq_true_eq, Bool.false_eq_true, false_iff, true_iff, iff_true, iff_false, Bool.not_eq_true]; omega) | (simp_all; done) | (simp_all; omega) | grind
  first | refine TC.condD rfl (fun hc33 => ?_) (fun hc33 => ?_) | refine TC.condN rfl (fun hc33 => ?_) (fun hc33 => ?_) | refine TC.cond rfl (fun hc33 => ?_) (fun hc33 => ?_)
  · try dsimp only at hc33
    refine TC.skip' ?_
    refine TC.seq ?_
    refine TC.block ?_
    refine TC.seq ?_
    have hrow := encD_get (cs.take 20) i h0 (by omega)
    have hxl : x.length ≤ 1000000 := by omega
    refine TC.region ?_
    refine TL.run1 (pure_move rfl) rfl ?_
    refine TL.run1 (pure_move rfl) rfl ?_
    refine TL.run1 (pure_indexAddr Ty.sl61 rfl rfl (by omega) (by assumption) (List.cons_ne_nil _ _)) rfl ?_
    first | refine TL.run1 (pure_load Ty.agg65 rfl (.succ (.succ (.succ (.succ (.succ (.zero _))))))) rfl ?_ | refine TL.run1 (pure_load_own Ty.agg65 rfl (by repeat (first | exact List.Mem.head _ | apply List.Mem.tail)) (by repeat (first | exact DropR.zero _ | apply DropR.succ)) (.succ (.succ (.succ (.succ (.succ (.zero _))))))) rfl ?_
    refine TL.alloc Ty.zero65 rfl (fun g10 => ?_)
    refine TL.store rfl rfl (.agg _) Try.sizeOf65 rfl (by repeat (first | exact UpdR.here _ | apply UpdR.there)) (by repeat (first | exact PutR.nil _ | apply PutR.here | apply PutR.skip)) ?_
    refine TL.nil' ?_
    refine TC.seq ?_
    refine TC.region ?_
    refine TL.run1 (pure_move rfl) rfl ?_
    first | refine TL.run1 (pure_fieldAddr Ty.f65_0 rfl (.zero _) (List.cons_ne_nil _ _)) rfl ?_ | refine TL.run1 (pure_fieldAddr_own Ty.f65_0 rfl) rfl ?_
    first | refine TL.run1 (pure_load1 Ty.one3 rfl) rfl ?_ | refine TL.run1 (pure_load1_own Ty.one3 rfl (by repeat (first | exact List.Mem.head _ | apply List.Mem.tail)) (by repeat (first | exact DropR.zero _ | apply DropR.succ))) rfl ?_
    refine TL.run1 (pure_call (RGet_spec _ _ hxl) (.cons rfl (.cons rfl .nil)) Try.call29) rfl ?_
    refine TL.run1 (pure_move rfl) rfl ?_
    refine TL.run1 (pure_extract rfl rfl) rfl ?_
    refine TL.run1 (pure_extract rfl rfl) rfl ?_
    refine TL.run1 (pure_assign rfl) rfl ?_
    refine TL.run1 (pure_assign rfl) rfl ?_
    refine TL.nil' ?_
    refine TC.block ?_
    refine TC.regionCut [52, 53, 54, 55, 56, 57, 58, 59, 60, 61, 62, 63, 64, 51] 51 ((lookP x (hAt (cs.take 20) i).key).isSome ≠ (hAt (cs.take 20) i).had ∨ ((lookP x (hAt (cs.take 20) i).key).isSome = true ∧ (lookP x (hAt (cs.take 20) i).key).getD 0 ≠ (hAt (cs.take 20) i).old)) ?_ ?_
    · skip
      refine TL.run1 (pure_move rfl) rfl ?_
      first | refine TL.run1 (pure_fieldAddr Ty.f65_3 rfl (.succ (.succ (.succ (.zero _)))) (List.cons_ne_nil _ _)) rfl ?_ | refine TL.run1 (pure_fieldAddr_own Ty.f65_3 rfl) rfl ?_
      first | refine TL.run1 (pure_load1 Ty.one4 rfl) rfl ?_ | refine TL.run1 (pure_load1_own Ty.one4 rfl (by repeat (first | exact List.Mem.head _ | apply List.Mem.tail)) (by repeat (first | exact DropR.zero _ | apply DropR.succ))) rfl ?_
      refine TL.run1 (pure_neq_bool Try.underlying4 rfl rfl) rfl ?_
      refine TL.run1 (pure_move rfl) rfl ?_
      first | refine TL.splitP 56 rfl (fun hg56 => ?_) (fun hg56 => ?_) | refine TL.split 56 rfl (fun hg56 => ?_) (fun hg56 => ?_)
      · try dsimp only at hg56
        refine TL.passG rfl rfl rfl rfl ?_
        refine TL.passG rfl rfl rfl rfl ?_
        refine TL.passG rfl rfl rfl rfl ?_
        refine TL.passG rfl rfl rfl rfl ?_
        refine TL.passG rfl rfl rfl rfl ?_
        refine TL.passG rfl rfl rfl rfl ?_
        refine TL.passG rfl rfl rfl rfl ?_
        refine TL.run1 (pure_pick_true rfl rfl) rfl ?_
        refine TL.run1 (pure_assign rfl) rfl ?_
        refine TL.cutEnd (by repeat (first | exact Same.refl _ _ | refine Same.put rfl ?_)) rfl ?_
        first | (simp only [decide_eq_true_eq, Bool.false_eq_true, false_iff, true_iff, iff_true, iff_false, Bool.not_eq_true]; omega) | (simp_all; done) | (simp_all; omega) | grind
      · try dsimp only at hg56
        refine TL.runG rfl rfl (pure_move rfl) rfl ?_
        refine TL.runG rfl rfl (pure_move rfl) rfl ?_
        first | refine TL.splitP 58 rfl (fun hg58 => ?_) (fun hg58 => ?_) | refine TL.split 58 rfl (fun hg58 => ?_) (fun hg58 => ?_)
        · try dsimp only at hg58
          refine TL.runG rfl rfl (pure_move rfl) rfl ?_
          first | refine TL.runG rfl rfl (pure_fieldAddr Ty.f65_1 rfl (.succ (.zero _)) (List.cons_ne_nil _ _)) rfl ?_ | refine TL.runG rfl rfl (pure_fieldAddr_own Ty.f65_1 rfl) rfl ?_
          first | refine TL.runG rfl rfl (pure_load1 Ty.one3 rfl) rfl ?_ | refine TL.runG rfl rfl (pure_load1_own Ty.one3 rfl (by repeat (first | exact List.Mem.head _ | apply List.Mem.tail)) (by repeat (first | exact DropR.zero _ | apply DropR.succ))) rfl ?_
          refine TL.runG rfl rfl (pure_neq rfl rfl) rfl ?_
          refine TL.runG rfl rfl (pure_pick_true rfl rfl) rfl ?_
          refine TL.run1 (pure_pick_false rfl rfl) rfl ?_
          refine TL.run1 (pure_assign rfl) rfl ?_
          refine TL.cutEnd (by repeat (first | exact Same.refl _ _ | refine Same.put rfl ?_)) rfl ?_
          first | (simp only [decide_eq_true_eq, Bool.false_eq_true, false_iff, true_iff, iff_true, iff_false, Bool.not_eq_true]; omega) | (simp_all; done) | (simp_all; omega) | grind
        · try dsimp only at hg58
          refine TL.passG rfl rfl rfl rfl ?_
          refine TL.passG rfl rfl rfl rfl ?_
          refine TL.passG rfl rfl rfl rfl ?_
          refine TL.passG rfl rfl rfl rfl ?_
          refine TL.runG rfl rfl (pure_pick_false rfl rfl) rfl ?_
          refine TL.run1 (pure_pick_false rfl rfl) rfl ?_
          refine TL.run1 (pure_assign rfl) rfl ?_
          refine TL.cutEnd (by repeat (first | exact Same.refl _ _ | refine Same.put rfl ?_)) rfl ?_
          first | (simp only [decide_eq_true_eq, Bool.false_eq_true, false_iff, true_iff, iff_true, iff_false, Bool.not_eq_true]; omega) | (simp_all; done) | (simp_all; omega) | grind
    first | refine TC.condD rfl (fun hc51 => ?_) (fun hc51 => ?_) | refine TC.condN rfl (fun hc51 => ?_) (fun hc51 => ?_) | refine TC.cond rfl (fun hc51 => ?_) (fun hc51 => ?_)
    · try dsimp only at hc51
      refine TC.region ?_
      refine TL.run1 (pure_assign rfl) rfl ?_
      refine TL.nil ?_
      refine block_normal ?_
      refine block_normal ?_
      refine then_normal ?_
      refine TC.region ?_
      refine TL.run1 (pure_move rfl) rfl ?_
      refine TL.run1 (pure_add rfl rfl (mkI64 (by omega) (by omega))) rfl ?_
      refine TL.run1 (pure_assign rfl) rfl ?_
      refine TL.nil ?_
      have hst := applyAll_take (ordP l) (cs.take 20) i h0 (by omega)
      rw [h2 hc33.2] at hst
      simp only [Option.bind_some] at hst
      have hsx : applyStep x (hAt (cs.take 20) i) = none := by unfold applyStep; rw [if_pos hc51]
      rw [hsx] at hst
      refine loop_next (i + 1, x, false) ⟨by repeat (first | exact Agree.nil | refine Agree.cons rfl ?_), by repeat (first | exact List.nil_sublist _ | exact List.Sublist.refl _ | apply List.Sublist.cons_cons | apply List.Sublist.cons)⟩ ⟨by omega, by omega, fun h => (by cases h), fun _ => applyAll_none _ _ _ hst, h4, by omega⟩ (by dsimp only; omega)
    · try dsimp only at hc51
      refine TC.seq ?_
      refine TC.region ?_
      first | refine TL.run1 (pure_fieldAddr Ty.f65_4 rfl (.succ (.succ (.succ (.succ (.zero _))))) (List.cons_ne_nil _ _)) rfl ?_ | refine TL.run1 (pure_fieldAddr_own Ty.f65_4 rfl) rfl ?_
      first | refine TL.run1 (pure_load1 Ty.one4 rfl) rfl ?_ | refine TL.run1 (pure_load1_own Ty.one4 rfl (by repeat (first | exact List.Mem.head _ | apply List.Mem.tail)) (by repeat (first | exact DropR.zero _ | apply DropR.succ))) rfl ?_
      refine TL.run1 (pure_assign rfl) rfl ?_
      refine TL.nil' ?_
      first | refine TC.condD rfl (fun hc65 => ?_) (fun hc65 => ?_) | refine TC.condN rfl (fun hc65 => ?_) (fun hc65 => ?_) | refine TC.cond rfl (fun hc65 => ?_) (fun hc65 => ?_)
      · try dsimp only at hc65
        refine TC.region ?_
        refine TL.run1 (pure_move rfl) rfl ?_
        first | refine TL.run1 (pure_fieldAddr Ty.f65_0 rfl (.zero _) (List.cons_ne_nil _ _)) rfl ?_ | refine TL.run1 (pure_fieldAddr_own Ty.f65_0 rfl) rfl ?_
        first | refine TL.run1 (pure_load1 Ty.one3 rfl) rfl ?_ | refine TL.run1 (pure_load1_own Ty.one3 rfl (by repeat (first | exact List.Mem.head _ | apply List.Mem.tail)) (by repeat (first | exact DropR.zero _ | apply DropR.succ))) rfl ?_
        first | refine TL.run1 (pure_fieldAddr Ty.f65_2 rfl (.succ (.succ (.zero _))) (List.cons_ne_nil _ _)) rfl ?_ | refine TL.run1 (pure_fieldAddr_own Ty.f65_2 rfl) rfl ?_
        first | refine TL.run1 (pure_load1 Ty.one3 rfl) rfl ?_ | refine TL.run1 (pure_load1_own Ty.one3 rfl (by repeat (first | exact List.Mem.head _ | apply List.Mem.tail)) (by repeat (first | exact DropR.zero _ | apply DropR.succ))) rfl ?_
        refine TL.run1 (pure_call (RSet_spec _ _ _ hxl) (.cons rfl (.cons rfl (.cons rfl .nil))) Try.call37) rfl ?_
        refine TL.run1 (pure_assign rfl) rfl ?_
        refine TL.nil ?_
        refine block_normal ?_
        refine block_normal ?_
        refine then_normal ?_
        refine TC.region ?_
        refine TL.run1 (pure_move rfl) rfl ?_
        refine TL.run1 (pure_add rfl rfl (mkI64 (by omega) (by omega))) rfl ?_
        refine TL.run1 (pure_assign rfl) rfl ?_
        refine TL.nil ?_
        have hst := applyAll_take (ordP l) (cs.take 20) i h0 (by omega)
        rw [h2 hc33.2] at hst
        simp only [Option.bind_some] at hst
        have hsx : applyStep x (hAt (cs.take 20) i) = some (setP x (hAt (cs.take 20) i).key (hAt (cs.take 20) i).new) := by unfold applyStep; rw [if_neg hc51, if_pos hc65]
        rw [hsx] at hst
        obtain ⟨q1, q2⟩ := applyStep_spec h4 hsx
        refine loop_next (i + 1, (setP x (hAt (cs.take 20) i).key (hAt (cs.take 20) i).new), f) ⟨by repeat (first | exact Agree.nil | refine Agree.cons rfl ?_), by repeat (first | exact List.nil_sublist _ | exact List.Sublist.refl _ | apply List.Sublist.cons_cons | apply List.Sublist.cons)⟩ ⟨by omega, by omega, fun _ => hst, fun h => (by rw [hc33.2] at h; cases h), q1, by omega⟩ (by dsimp only; omega)
      · try dsimp only at hc65
        refine TC.region ?_
        refine TL.run1 (pure_move rfl) rfl ?_
        first | refine TL.run1 (pure_fieldAddr Ty.f65_0 rfl (.zero _) (List.cons_ne_nil _ _)) rfl ?_ | refine TL.run1 (pure_fieldAddr_own Ty.f65_0 rfl) rfl ?_
        first | refine TL.run1 (pure_load1 Ty.one3 rfl) rfl ?_ | refine TL.run1 (pure_load1_own Ty.one3 rfl (by repeat (first | exact List.Mem.head _ | apply List.Mem.tail)) (by repeat (first | exact DropR.zero _ | apply DropR.succ))) rfl ?_
        refine TL.run1 (pure_call (RClear_spec _ _ hxl) (.cons rfl (.cons rfl .nil)) Try.call38) rfl ?_
        refine TL.run1 (pure_assign rfl) rfl ?_
        refine TL.nil ?_
        refine block_normal ?_
        refine block_normal ?_
        refine then_normal ?_
        refine TC.region ?_
        refine TL.run1 (pure_move rfl) rfl ?_
        refine TL.run1 (pure_add rfl rfl (mkI64 (by omega) (by omega))) rfl ?_
        refine TL.run1 (pure_assign rfl) rfl ?_
        refine TL.nil ?_
        have hst := applyAll_take (ordP l) (cs.take 20) i h0 (by omega)
        rw [h2 hc33.2] at hst
        simp only [Option.bind_some] at hst
        have hsx : applyStep x (hAt (cs.take 20) i) = some (clearP x (hAt (cs.take 20) i).key) := by unfold applyStep; rw [if_neg hc51, if_neg (by rw [hc65]; simp)]
        rw [hsx] at hst
        obtain ⟨q1, q2⟩ := applyStep_spec h4 hsx
        refine loop_next (i + 1, (clearP x (hAt (cs.take 20) i).key), f) ⟨by repeat (first | exact Agree.nil | refine Agree.cons rfl ?_), by repeat (first | exact List.nil_sublist _ | exact List.Sublist.refl _ | apply List.Sublist.cons_cons | apply List.Sublist.cons)⟩ ⟨by omega, by omega, fun _ => hst, fun h => (by rw [hc33.2] at h; cases h), q1, by omega⟩ (by dsimp only; omega)
  · try dsimp only at hc33
    refine TC.exit ?_
    refine then_exit ?_
    refine loop_exit ?_
    refine block_here ?_
    refine then_normal ?_
    refine TC.seq ?_
    refine TC.seq ?_
    refine TC.region ?_
    refine TL.run1 (pure_move rfl) rfl ?_
    refine TL.run1 (pure_not rfl) rfl ?_
    refine TL.nil' ?_
    first | refine TC.condD rfl (fun hc75 => ?_) (fun hc75 => ?_) | refine TC.condN rfl (fun hc75 => ?_) (fun hc75 => ?_) | refine TC.cond rfl (fun hc75 => ?_) (fun hc75 => ?_)
    · try dsimp only at hc75
      have hff : f = false := by simpa using hc75
      have hno := h3 hff
      rw [hno]
      clear h2 h3 hc33
      refine TC.regionCut [76, 77, 78, 79, 80, 81, 82, 83, 84, 85, 4] 4 (True) ?_ ?_
      · skip
        refine TL.run1 (pure_call (known_spec) .nil Try.call14) rfl ?_
        refine TL.run1 (pure_move rfl) rfl ?_
        first | refine TL.splitP 77 rfl (fun hg77 => ?_) (fun hg77 => ?_) | refine TL.split 77 rfl (fun hg77 => ?_) (fun hg77 => ?_)
        · try dsimp only at hg77
          refine TL.runG rfl rfl (pure_move rfl) rfl ?_
          first | refine TL.runG rfl rfl (pure_len Ty.sl31 rfl) rfl ?_ | refine TL.runG rfl rfl (pure_len_row Ty.sl31 rfl (by repeat (first | exact List.Mem.head _ | apply List.Mem.tail))) rfl ?_ | refine TL.runG rfl rfl (pure_len_nil Ty.sl31 rfl) rfl ?_
          refine TL.runG rfl rfl (pure_eql rfl rfl) rfl ?_
          refine TL.run1 (pure_pick_true rfl rfl) rfl ?_
          refine TL.run1 (pure_move rfl) rfl ?_
          first | refine TL.splitP 82 rfl (fun hg82 => ?_) (fun hg82 => ?_) | refine TL.split 82 rfl (fun hg82 => ?_) (fun hg82 => ?_)
          · try dsimp only at hg82
            refine TL.runG rfl rfl (pure_move rfl) rfl ?_
            refine TL.runG rfl rfl (pure_eql rfl rfl) rfl ?_
            refine TL.run1 (pure_pick_true rfl rfl) rfl ?_
            refine TL.run1 (pure_assign rfl) rfl ?_
            refine TL.cutEnd (by repeat (first | exact Same.refl _ _ | refine Same.put rfl ?_)) rfl ?_
            first | (simp_all [encP]; done) | grind
          · try dsimp only at hg82
            refine TL.passG rfl rfl rfl rfl ?_
            refine TL.passG rfl rfl rfl rfl ?_
            refine TL.run1 (pure_pick_false rfl rfl) rfl ?_
            refine TL.run1 (pure_assign rfl) rfl ?_
            refine TL.cutEnd (by repeat (first | exact Same.refl _ _ | refine Same.put rfl ?_)) rfl ?_
            first | (simp_all [encP]; done) | grind
        · try dsimp only at hg77
          refine TL.passG rfl rfl rfl rfl ?_
          refine TL.passG rfl rfl rfl rfl ?_
          refine TL.passG rfl rfl rfl rfl ?_
          refine TL.run1 (pure_pick_false rfl rfl) rfl ?_
          refine TL.run1 (pure_move rfl) rfl ?_
          refine TL.passG rfl rfl rfl rfl ?_
          refine TL.passG rfl rfl rfl rfl ?_
          refine TL.run1 (pure_pick_false rfl rfl) rfl ?_
          refine TL.run1 (pure_assign rfl) rfl ?_
          refine TL.cutEnd (by repeat (first | exact Same.refl _ _ | refine Same.put rfl ?_)) rfl ?_
          first | (simp_all [encP]; done) | grind
      refine TC.ret ?_
      refine then_ret ?_
      exact ret_bool rfl (by simp)
    · try dsimp only at hc75
      have hff : f = true := by simpa using hc75
      have hge : ((cs.take 20).length : Int) ≤ i := Int.not_lt.1 fun h => hc33 ⟨h, hff⟩
      have hyes := h2 hff
      rw [List.take_of_length_le (by omega)] at hyes
      rw [hyes]
      have hxl : x.length ≤ 1000000 := by omega
      show TC _ _ _ _ _
      simp only [Option.getD_some, Option.isSome_some, if_true]
      clear h2 h3 hc33
      refine TC.skip' ?_
      refine TC.regionCut [86, 87, 88, 89, 90, 91, 92, 93, 94, 95, 4] 4 (True) ?_ ?_
      · skip
        refine TL.run1 (pure_call (known_spec) .nil Try.call14) rfl ?_
        refine TL.run1 (pure_move rfl) rfl ?_
        first | refine TL.splitP 87 rfl (fun hg87 => ?_) (fun hg87 => ?_) | refine TL.split 87 rfl (fun hg87 => ?_) (fun hg87 => ?_)
        · try dsimp only at hg87
          refine TL.runG rfl rfl (pure_move rfl) rfl ?_
          refine TL.runG rfl rfl (pure_eql rfl rfl) rfl ?_
          refine TL.run1 (pure_pick_true rfl rfl) rfl ?_
          refine TL.run1 (pure_move rfl) rfl ?_
          first | refine TL.splitP 91 rfl (fun hg91 => ?_) (fun hg91 => ?_) | refine TL.split 91 rfl (fun hg91 => ?_) (fun hg91 => ?_)
          · try dsimp only at hg91
            refine TL.runG rfl rfl (pure_move rfl) rfl ?_
            refine TL.runG rfl rfl (pure_move rfl) rfl ?_
            refine TL.runG rfl rfl (pure_call (REqual_spec _ _ (by omega)) (.cons rfl (.cons rfl .nil)) Try.call22) rfl ?_
            refine TL.run1 (pure_pick_true rfl rfl) rfl ?_
            refine TL.run1 (pure_assign rfl) rfl ?_
            refine TL.cutEnd (by repeat (first | exact Same.refl _ _ | refine Same.put rfl ?_)) rfl ?_
            first | (simp_all; done) | grind
          · try dsimp only at hg91
            refine TL.passG rfl rfl rfl rfl ?_
            refine TL.passG rfl rfl rfl rfl ?_
            refine TL.passG rfl rfl rfl rfl ?_
            refine TL.run1 (pure_pick_false rfl rfl) rfl ?_
            refine TL.run1 (pure_assign rfl) rfl ?_
            refine TL.cutEnd (by repeat (first | exact Same.refl _ _ | refine Same.put rfl ?_)) rfl ?_
            first | (simp_all; done) | grind
        · try dsimp only at hg87
          refine TL.passG rfl rfl rfl rfl ?_
          refine TL.passG rfl rfl rfl rfl ?_
          refine TL.run1 (pure_pick_false rfl rfl) rfl ?_
          refine TL.run1 (pure_move rfl) rfl ?_
          refine TL.passG rfl rfl rfl rfl ?_
          refine TL.passG rfl rfl rfl rfl ?_
          refine TL.passG rfl rfl rfl rfl ?_
          refine TL.run1 (pure_pick_false rfl rfl) rfl ?_
          refine TL.run1 (pure_assign rfl) rfl ?_
          refine TL.cutEnd (by repeat (first | exact Same.refl _ _ | refine Same.put rfl ?_)) rfl ?_
          first | (simp_all; done) | grind
      refine TC.ret ?_
      exact ret_bool rfl (by simp)
set_option maxRecDepth 100000 in
theorem PropertyDiffs_spec (a b : List (Int × Int)) (hla : a.length ≤ 9223372036854775807) (hlb : b.length ≤ 9223372036854775807) : Fun Try.prog 12 [.sl 2 (encP a), .sl 2 (encP b)] (.v (.bool true)) := by
  refine Fun.enter (n := 175) (rs := [.tmp 4]) Try.func12 rfl Try.ntmps12 Try.results12 rfl (fun w F => ?_)
  have ha := ordP_inc a
  have hb := ordP_inc b
  have l1 := ordP_len a
  have l2 := ordP_len b
  have l3 := diffP_len (ordP a) (ordP b)
  have l4 := mergeR_len (ordP b) (ordP a)
  refine TC.seq ?_
  refine TC.region ?_
  refine TL.run1 (pure_assign rfl) rfl ?_
  refine TL.nil' ?_
  refine TC.seq ?_
  refine TC.region ?_
  refine TL.run1 (pure_move rfl) rfl ?_
  first | refine TL.run1 (pure_call (ordered_spec _ hla) (.cons rfl .nil) Try.call20) rfl ?_ | refine TL.run1 (pure_call (ordered_spec _ hlb) (.cons rfl .nil) Try.call20) rfl ?_
  refine TL.run1 (pure_move rfl) rfl ?_
  first | refine TL.run1 (pure_call (ordered_spec _ hla) (.cons rfl .nil) Try.call20) rfl ?_ | refine TL.run1 (pure_call (ordered_spec _ hlb) (.cons rfl .nil) Try.call20) rfl ?_
  refine TL.run1 (pure_assign rfl) rfl ?_
  refine TL.run1 (pure_assign rfl) rfl ?_
  refine TL.nil' ?_
  refine TC.seq ?_
  refine TC.seq ?_
  refine TC.region ?_
  refine TL.run1 (pure_call (known_spec) .nil Try.call14) rfl ?_
  refine TL.run1 (pure_not rfl) rfl ?_
  refine TL.nil' ?_
  first | refine TC.condD rfl (fun hc28 => ?_) (fun hc28 => ?_) | refine TC.condN rfl (fun hc28 => ?_) (fun hc28 => ?_) | refine TC.cond rfl (fun hc28 => ?_) (fun hc28 => ?_)
  · try dsimp only at hc28
    exact absurd hc28 (by simp)
  · try dsimp only at hc28
    refine TC.skip' ?_
    refine TC.seq ?_
    refine TC.region ?_
    refine TL.run1 (pure_move rfl) rfl ?_
    refine TL.run1 (pure_move rfl) rfl ?_
    refine TL.run1 (pure_call (Diff_spec _ _ (by omega) (by omega)) (.cons rfl (.cons rfl .nil)) Try.call42) rfl ?_
    refine TL.run1 (pure_assign rfl) rfl ?_
    refine TL.nil' ?_
    refine TC.seq ?_
    refine TC.region ?_
    refine TL.run1 (pure_assign rfl) rfl ?_
    refine TL.nil' ?_
    refine TC.seq ?_
    refine TC.region ?_
    refine TL.run1 (pure_assign rfl) rfl ?_
    refine TL.nil' ?_
    refine TC.seq ?_
    refine TC.seq ?_
    refine TC.region ?_
    refine TL.run1 (pure_assign rfl) rfl ?_
    refine TL.nil' ?_
    refine TC.block ?_
    refine TC.loopX (X := Int × Int) (fun (i, last) => [(0, .sl 2 (encP (ordP a))), (1, .sl 2 (encP (ordP b))), (5, .sl 5 (encD (diffP (ordP a) (ordP b)))), (6, .v (.int .i64 last)), (7, .v (.int .i64 0)), (8, .v (.int .i64 i))]) (fun (i, last) => []) (fun (i, last) => (0 ≤ i) ∧ (i ≤ (diffP (ordP a) (ordP b)).length) ∧ (i > 0 → last = (hAt (diffP (ordP a) (ordP b)) (i - 1)).key)) (fun (i, last) => ((diffP (ordP a) (ordP b)).length - i).toNat) (0, 0) ⟨by skip; repeat (first | exact Agree.nil | refine Agree.cons rfl ?_), by skip; repeat (first | exact List.nil_sublist _ | exact List.Sublist.refl _ | apply List.Sublist.cons_cons | apply List.Sublist.cons)⟩ ?_ ?_
    · skip
      exact ⟨by omega, by omega, fun h => by omega⟩
    rintro ⟨i, last⟩
    rintro ⟨h0, h1, h2⟩
    show TC _ _ _ (Env.of [(0, .sl 2 (encP (ordP a))), (1, .sl 2 (encP (ordP b))), (5, .sl 5 (encD (diffP (ordP a) (ordP b)))), (6, .v (.int .i64 last)), (7, .v (.int .i64 0)), (8, .v (.int .i64 i))]) []
    have hkd := encD_len (diffP (ordP a) (ordP b))
    refine TC.seq ?_
    refine TC.seq ?_
    refine TC.region ?_
    refine TL.run1 (pure_move rfl) rfl ?_
    refine TL.run1 (pure_move rfl) rfl ?_
    first | refine TL.run1 (pure_len Ty.sl61 rfl) rfl ?_ | refine TL.run1 (pure_len_row Ty.sl61 rfl (by repeat (first | exact List.Mem.head _ | apply List.Mem.tail))) rfl ?_ | refine TL.run1 (pure_len_nil Ty.sl61 rfl) rfl ?_
    refine TL.run1 (pure_lss rfl rfl) rfl ?_
    refine TL.nil' ?_
    first | refine TC.condD rfl (fun hc35 => ?_) (fun hc35 => ?_) | refine TC.condN rfl (fun hc35 => ?_) (fun hc35 => ?_) | refine TC.cond rfl (fun hc35 => ?_) (fun hc35 => ?_)
    · try dsimp only at hc35
      refine TC.skip' ?_
      refine TC.seq ?_
      refine TC.block ?_
      refine TC.seq ?_
      have hrow := encD_get (diffP (ordP a) (ordP b)) i h0 (by omega)
      refine TC.region ?_
      refine TL.run1 (pure_move rfl) rfl ?_
      refine TL.run1 (pure_move rfl) rfl ?_
      refine TL.run1 (pure_move rfl) rfl ?_
      refine TL.run1 (pure_indexAddr Ty.sl61 rfl rfl (by omega) (by assumption) (List.cons_ne_nil _ _)) rfl ?_
      first | refine TL.run1 (pure_fieldAddr Ty.f65_0 rfl (.zero _) (List.cons_ne_nil _ _)) rfl ?_ | refine TL.run1 (pure_fieldAddr_own Ty.f65_0 rfl) rfl ?_
      first | refine TL.run1 (pure_load1 Ty.one3 rfl) rfl ?_ | refine TL.run1 (pure_load1_own Ty.one3 rfl (by repeat (first | exact List.Mem.head _ | apply List.Mem.tail)) (by repeat (first | exact DropR.zero _ | apply DropR.succ))) rfl ?_
      first | refine TL.run1 (pure_call (RGet_spec (ordP a) _ (by omega)) (.cons rfl (.cons rfl .nil)) Try.call29) rfl ?_ | refine TL.run1 (pure_call (RGet_spec (ordP b) _ (by omega)) (.cons rfl (.cons rfl .nil)) Try.call29) rfl ?_
      refine TL.run1 (pure_move rfl) rfl ?_
      refine TL.run1 (pure_extract rfl rfl) rfl ?_
      refine TL.run1 (pure_extract rfl rfl) rfl ?_
      refine TL.run1 (pure_assign rfl) rfl ?_
      refine TL.run1 (pure_assign rfl) rfl ?_
      refine TL.nil' ?_
      refine TC.seq ?_
      refine TC.region ?_
      refine TL.run1 (pure_move rfl) rfl ?_
      refine TL.run1 (pure_move rfl) rfl ?_
      refine TL.run1 (pure_move rfl) rfl ?_
      refine TL.run1 (pure_indexAddr Ty.sl61 rfl rfl (by omega) (by assumption) (List.cons_ne_nil _ _)) rfl ?_
      first | refine TL.run1 (pure_fieldAddr Ty.f65_0 rfl (.zero _) (List.cons_ne_nil _ _)) rfl ?_ | refine TL.run1 (pure_fieldAddr_own Ty.f65_0 rfl) rfl ?_
      first | refine TL.run1 (pure_load1 Ty.one3 rfl) rfl ?_ | refine TL.run1 (pure_load1_own Ty.one3 rfl (by repeat (first | exact List.Mem.head _ | apply List.Mem.tail)) (by repeat (first | exact DropR.zero _ | apply DropR.succ))) rfl ?_
      first | refine TL.run1 (pure_call (RGet_spec (ordP a) _ (by omega)) (.cons rfl (.cons rfl .nil)) Try.call29) rfl ?_ | refine TL.run1 (pure_call (RGet_spec (ordP b) _ (by omega)) (.cons rfl (.cons rfl .nil)) Try.call29) rfl ?_
      refine TL.run1 (pure_move rfl) rfl ?_
      refine TL.run1 (pure_extract rfl rfl) rfl ?_
      refine TL.run1 (pure_extract rfl rfl) rfl ?_
      refine TL.run1 (pure_assign rfl) rfl ?_
      refine TL.run1 (pure_assign rfl) rfl ?_
      refine TL.nil' ?_
      refine TC.seq ?_
      obtain ⟨d1, d2⟩ := diff_at ha hb i h0 (by omega)
      have d3 : i > 0 → last < (hAt (diffP (ordP a) (ordP b)) i).key := fun h => by rw [h2 h]; exact diff_inc ha hb i (by omega) (by omega)
      have d4 : (hAt (diffP (ordP a) (ordP b)) i).old = (lookP (ordP a) (hAt (diffP (ordP a) (ordP b)) i).key).getD 0 := congrArg Ch.old d1
      have d5 : (hAt (diffP (ordP a) (ordP b)) i).new = (lookP (ordP b) (hAt (diffP (ordP a) (ordP b)) i).key).getD 0 := congrArg Ch.new d1
      have d6 : (hAt (diffP (ordP a) (ordP b)) i).had = (lookP (ordP a) (hAt (diffP (ordP a) (ordP b)) i).key).isSome := congrArg Ch.had d1
      have d7 : (hAt (diffP (ordP a) (ordP b)) i).has = (lookP (ordP b) (hAt (diffP (ordP a) (ordP b)) i).key).isSome := congrArg Ch.has d1
      unfold keepB at d2
      rw [← d4, ← d5, ← d6, ← d7]
      simp only [Bool.or_eq_true, decide_eq_true_eq] at d2
      clear d1 d4 d5 d6 d7 h2
      refine TC.drawCut [58, 59, 60, 61, 62, 63, 64, 65, 66, 67, 68, 69, 70, 71, 72, 73, 74, 75, 76, 77, 78, 79, 80, 81, 82, 83, 84, 85, 86, 87, 88, 89, 90, 91, 92, 93, 94, 95] 95 (False) Ty.follows (by kernel_rfl) ?_ ?_
      · skip
        refine TD.run1 (pure_move rfl) rfl ?_
        refine TD.run1 (pure_gtr rfl rfl) rfl ?_
        refine TD.run1 (pure_move rfl) rfl ?_
        first | refine TD.splitP 60 rfl (fun hg60 => ?_) (fun hg60 => ?_) | refine TD.split 60 rfl (fun hg60 => ?_) (fun hg60 => ?_)
        · try dsimp only at hg60
          refine TD.runG rfl rfl (pure_move rfl) rfl ?_
          refine TD.runG rfl rfl (pure_move rfl) rfl ?_
          refine TD.runG rfl rfl (pure_indexAddr Ty.sl61 rfl rfl (by omega) (by assumption) (List.cons_ne_nil _ _)) rfl ?_
          first | refine TD.runG rfl rfl (pure_fieldAddr Ty.f65_0 rfl (.zero _) (List.cons_ne_nil _ _)) rfl ?_ | refine TD.runG rfl rfl (pure_fieldAddr_own Ty.f65_0 rfl) rfl ?_
          first | refine TD.runG rfl rfl (pure_load1 Ty.one3 rfl) rfl ?_ | refine TD.runG rfl rfl (pure_load1_own Ty.one3 rfl (by repeat (first | exact List.Mem.head _ | apply List.Mem.tail)) (by repeat (first | exact DropR.zero _ | apply DropR.succ))) rfl ?_
          refine TD.runG rfl rfl (pure_move rfl) rfl ?_
          refine TD.runG rfl rfl (pure_leq rfl rfl) rfl ?_
          refine TD.run1 (pure_pick_true rfl rfl) rfl ?_
          refine TD.run1 (pure_move rfl) rfl ?_
          first | refine TD.splitP 69 rfl (fun hg69 => ?_) (fun hg69 => ?_) | refine TD.split 69 rfl (fun hg69 => ?_) (fun hg69 => ?_)
          · try dsimp only at hg69
            refine TD.passG rfl rfl rfl rfl ?_
            refine TD.passG rfl rfl rfl rfl ?_
            refine TD.passG rfl rfl rfl rfl ?_
            refine TD.passG rfl rfl rfl rfl ?_
            refine TD.passG rfl rfl rfl rfl ?_
            refine TD.passG rfl rfl rfl rfl ?_
            refine TD.passG rfl rfl rfl rfl ?_
            refine TD.passG rfl rfl rfl rfl ?_
            refine TD.passG rfl rfl rfl rfl ?_
            refine TD.passG rfl rfl rfl rfl ?_
            refine TD.passG rfl rfl rfl rfl ?_
            refine TD.passG rfl rfl rfl rfl ?_
            refine TD.passG rfl rfl rfl rfl ?_
            refine TD.passG rfl rfl rfl rfl ?_
            refine TD.passG rfl rfl rfl rfl ?_
            refine TD.run1 (pure_pick_true rfl rfl) rfl ?_
            refine TD.run1 (pure_move rfl) rfl ?_
            refine TD.passG rfl rfl rfl rfl ?_
            refine TD.passG rfl rfl rfl rfl ?_
            refine TD.passG rfl rfl rfl rfl ?_
            refine TD.passG rfl rfl rfl rfl ?_
            refine TD.passG rfl rfl rfl rfl ?_
            refine TD.passG rfl rfl rfl rfl ?_
            refine TD.passG rfl rfl rfl rfl ?_
            refine TD.passG rfl rfl rfl rfl ?_
            refine TD.run1 (pure_pick_true rfl rfl) rfl ?_
            refine TD.cutEnd (by repeat (first | exact Same.refl _ _ | refine Same.put rfl ?_)) rfl ?_
            first | (simp_all; done) | grind
          · try dsimp only at hg69
            refine TD.runG rfl rfl (pure_move rfl) rfl ?_
            refine TD.runG rfl rfl (pure_move rfl) rfl ?_
            refine TD.runG rfl rfl (pure_indexAddr Ty.sl61 rfl rfl (by omega) (by assumption) (List.cons_ne_nil _ _)) rfl ?_
            first | refine TD.runG rfl rfl (pure_load Ty.agg65 rfl (.succ (.succ (.succ (.succ (.succ (.zero _))))))) rfl ?_ | refine TD.runG rfl rfl (pure_load_own Ty.agg65 rfl (by repeat (first | exact List.Mem.head _ | apply List.Mem.tail)) (by repeat (first | exact DropR.zero _ | apply DropR.succ)) (.succ (.succ (.succ (.succ (.succ (.zero _))))))) rfl ?_
            refine TD.runG rfl rfl (pure_move rfl) rfl ?_
            refine TD.runG rfl rfl (pure_move rfl) rfl ?_
            refine TD.runG rfl rfl (pure_indexAddr Ty.sl61 rfl rfl (by omega) (by assumption) (List.cons_ne_nil _ _)) rfl ?_
            first | refine TD.runG rfl rfl (pure_fieldAddr Ty.f65_0 rfl (.zero _) (List.cons_ne_nil _ _)) rfl ?_ | refine TD.runG rfl rfl (pure_fieldAddr_own Ty.f65_0 rfl) rfl ?_
            first | refine TD.runG rfl rfl (pure_load1 Ty.one3 rfl) rfl ?_ | refine TD.runG rfl rfl (pure_load1_own Ty.one3 rfl (by repeat (first | exact List.Mem.head _ | apply List.Mem.tail)) (by repeat (first | exact DropR.zero _ | apply DropR.succ))) rfl ?_
            refine TD.runG rfl rfl (pure_move rfl) rfl ?_
            refine TD.runG rfl rfl (pure_move rfl) rfl ?_
            refine TD.runG rfl rfl (pure_move rfl) rfl ?_
            refine TD.runG rfl rfl (pure_move rfl) rfl ?_
            refine TD.runG rfl rfl (pure_build Ty.pl65 Ty.zero65 (.cons rfl rfl (.one rfl) rfl (.here (.nil _)) (.cons rfl rfl (.one rfl) rfl (.skip (.here (.nil _))) (.cons rfl rfl (.one rfl) rfl (.skip (.skip (.here (.nil _)))) (.cons rfl rfl (.one rfl) rfl (.skip (.skip (.skip (.here (.nil _))))) (.cons rfl rfl (.one rfl) rfl (.skip (.skip (.skip (.skip (.here (.nil _)))))) (.nil _))))))) rfl ?_
            refine TD.runG rfl rfl (pure_neq_mv Ty.eqm65 rfl rfl (.i (.i (.i (.b (.b .nil))))) (.i (.i (.i (.b (.b .nil))))) rfl rfl) rfl ?_
            refine TD.run1 (pure_pick_false rfl rfl) rfl ?_
            refine TD.run1 (pure_move rfl) rfl ?_
            first | refine TD.splitP 86 rfl (fun hg86 => ?_) (fun hg86 => ?_) | refine TD.split 86 rfl (fun hg86 => ?_) (fun hg86 => ?_)
            · try dsimp only at hg86
              refine TD.passG rfl rfl rfl rfl ?_
              refine TD.passG rfl rfl rfl rfl ?_
              refine TD.passG rfl rfl rfl rfl ?_
              refine TD.passG rfl rfl rfl rfl ?_
              refine TD.passG rfl rfl rfl rfl ?_
              refine TD.passG rfl rfl rfl rfl ?_
              refine TD.passG rfl rfl rfl rfl ?_
              refine TD.passG rfl rfl rfl rfl ?_
              refine TD.run1 (pure_pick_true rfl rfl) rfl ?_
              refine TD.cutEnd (by repeat (first | exact Same.refl _ _ | refine Same.put rfl ?_)) rfl ?_
              first | (simp_all; done) | grind
            · try dsimp only at hg86
              refine TD.runG rfl rfl (pure_move rfl) rfl ?_
              refine TD.runG rfl rfl (pure_move rfl) rfl ?_
              refine TD.runG rfl rfl (pure_eql_bool Try.underlying4 rfl rfl) rfl ?_
              refine TD.runG rfl rfl (pure_move rfl) rfl ?_
              first | refine TD.splitP 90 rfl (fun hg90 => ?_) (fun hg90 => ?_) | refine TD.split 90 rfl (fun hg90 => ?_) (fun hg90 => ?_)
              · try dsimp only at hg90
                refine TD.runG rfl rfl (pure_move rfl) rfl ?_
                refine TD.runG rfl rfl (pure_move rfl) rfl ?_
                refine TD.runG rfl rfl (pure_eql rfl rfl) rfl ?_
                refine TD.runG rfl rfl (pure_pick_true rfl rfl) rfl ?_
                refine TD.run1 (pure_pick_false rfl rfl) rfl ?_
                refine TD.cutEnd (by repeat (first | exact Same.refl _ _ | refine Same.put rfl ?_)) rfl ?_
                first | (simp_all; done) | grind
              · try dsimp only at hg90
                refine TD.passG rfl rfl rfl rfl ?_
                refine TD.passG rfl rfl rfl rfl ?_
                refine TD.passG rfl rfl rfl rfl ?_
                refine TD.runG rfl rfl (pure_pick_false rfl rfl) rfl ?_
                refine TD.run1 (pure_pick_false rfl rfl) rfl ?_
                refine TD.cutEnd (by repeat (first | exact Same.refl _ _ | refine Same.put rfl ?_)) rfl ?_
                first | (simp_all; done) | grind
        · try dsimp only at hg60
          refine TD.passG rfl rfl rfl rfl ?_
          refine TD.passG rfl rfl rfl rfl ?_
          refine TD.passG rfl rfl rfl rfl ?_
          refine TD.passG rfl rfl rfl rfl ?_
          refine TD.passG rfl rfl rfl rfl ?_
          refine TD.passG rfl rfl rfl rfl ?_
          refine TD.passG rfl rfl rfl rfl ?_
          refine TD.run1 (pure_pick_false rfl rfl) rfl ?_
          refine TD.run1 (pure_move rfl) rfl ?_
          refine TD.runG rfl rfl (pure_move rfl) rfl ?_
          refine TD.runG rfl rfl (pure_move rfl) rfl ?_
          refine TD.runG rfl rfl (pure_indexAddr Ty.sl61 rfl rfl (by omega) (by assumption) (List.cons_ne_nil _ _)) rfl ?_
          first | refine TD.runG rfl rfl (pure_load Ty.agg65 rfl (.succ (.succ (.succ (.succ (.succ (.zero _))))))) rfl ?_ | refine TD.runG rfl rfl (pure_load_own Ty.agg65 rfl (by repeat (first | exact List.Mem.head _ | apply List.Mem.tail)) (by repeat (first | exact DropR.zero _ | apply DropR.succ)) (.succ (.succ (.succ (.succ (.succ (.zero _))))))) rfl ?_
          refine TD.runG rfl rfl (pure_move rfl) rfl ?_
          refine TD.runG rfl rfl (pure_move rfl) rfl ?_
          refine TD.runG rfl rfl (pure_indexAddr Ty.sl61 rfl rfl (by omega) (by assumption) (List.cons_ne_nil _ _)) rfl ?_
          first | refine TD.runG rfl rfl (pure_fieldAddr Ty.f65_0 rfl (.zero _) (List.cons_ne_nil _ _)) rfl ?_ | refine TD.runG rfl rfl (pure_fieldAddr_own Ty.f65_0 rfl) rfl ?_
          first | refine TD.runG rfl rfl (pure_load1 Ty.one3 rfl) rfl ?_ | refine TD.runG rfl rfl (pure_load1_own Ty.one3 rfl (by repeat (first | exact List.Mem.head _ | apply List.Mem.tail)) (by repeat (first | exact DropR.zero _ | apply DropR.succ))) rfl ?_
          refine TD.runG rfl rfl (pure_move rfl) rfl ?_
          refine TD.runG rfl rfl (pure_move rfl) rfl ?_
          refine TD.runG rfl rfl (pure_move rfl) rfl ?_
          refine TD.runG rfl rfl (pure_move rfl) rfl ?_
          refine TD.runG rfl rfl (pure_build Ty.pl65 Ty.zero65 (.cons rfl rfl (.one rfl) rfl (.here (.nil _)) (.cons rfl rfl (.one rfl) rfl (.skip (.here (.nil _))) (.cons rfl rfl (.one rfl) rfl (.skip (.skip (.here (.nil _)))) (.cons rfl rfl (.one rfl) rfl (.skip (.skip (.skip (.here (.nil _))))) (.cons rfl rfl (.one rfl) rfl (.skip (.skip (.skip (.skip (.here (.nil _)))))) (.nil _))))))) rfl ?_
          refine TD.runG rfl rfl (pure_neq_mv Ty.eqm65 rfl rfl (.i (.i (.i (.b (.b .nil))))) (.i (.i (.i (.b (.b .nil))))) rfl rfl) rfl ?_
          refine TD.run1 (pure_pick_false rfl rfl) rfl ?_
          refine TD.run1 (pure_move rfl) rfl ?_
          first | refine TD.splitP 86 rfl (fun hg86 => ?_) (fun hg86 => ?_) | refine TD.split 86 rfl (fun hg86 => ?_) (fun hg86 => ?_)
          · try dsimp only at hg86
            refine TD.passG rfl rfl rfl rfl ?_
            refine TD.passG rfl rfl rfl rfl ?_
            refine TD.passG rfl rfl rfl rfl ?_
            refine TD.passG rfl rfl rfl rfl ?_
            refine TD.passG rfl rfl rfl rfl ?_
            refine TD.passG rfl rfl rfl rfl ?_
            refine TD.passG rfl rfl rfl rfl ?_
            refine TD.passG rfl rfl rfl rfl ?_
            refine TD.run1 (pure_pick_true rfl rfl) rfl ?_
            refine TD.cutEnd (by repeat (first | exact Same.refl _ _ | refine Same.put rfl ?_)) rfl ?_
            first | (simp_all; done) | grind
          · try dsimp only at hg86
            refine TD.runG rfl rfl (pure_move rfl) rfl ?_
            refine TD.runG rfl rfl (pure_move rfl) rfl ?_
            refine TD.runG rfl rfl (pure_eql_bool Try.underlying4 rfl rfl) rfl ?_
            refine TD.runG rfl rfl (pure_move rfl) rfl ?_
            first | refine TD.splitP 90 rfl (fun hg90 => ?_) (fun hg90 => ?_) | refine TD.split 90 rfl (fun hg90 => ?_) (fun hg90 => ?_)
            · try dsimp only at hg90
              refine TD.runG rfl rfl (pure_move rfl) rfl ?_
              refine TD.runG rfl rfl (pure_move rfl) rfl ?_
              refine TD.runG rfl rfl (pure_eql rfl rfl) rfl ?_
              refine TD.runG rfl rfl (pure_pick_true rfl rfl) rfl ?_
              refine TD.run1 (pure_pick_false rfl rfl) rfl ?_
              refine TD.cutEnd (by repeat (first | exact Same.refl _ _ | refine Same.put rfl ?_)) rfl ?_
              first | (simp_all; done) | grind
            · try dsimp only at hg90
              refine TD.passG rfl rfl rfl rfl ?_
              refine TD.passG rfl rfl rfl rfl ?_
              refine TD.passG rfl rfl rfl rfl ?_
              refine TD.runG rfl rfl (pure_pick_false rfl rfl) rfl ?_
              refine TD.run1 (pure_pick_false rfl rfl) rfl ?_
              refine TD.cutEnd (by repeat (first | exact Same.refl _ _ | refine Same.put rfl ?_)) rfl ?_
              first | (simp_all; done) | grind
      first | refine TC.condD rfl (fun hc95 => ?_) (fun hc95 => ?_) | refine TC.condN rfl (fun hc95 => ?_) (fun hc95 => ?_) | refine TC.cond rfl (fun hc95 => ?_) (fun hc95 => ?_)
      · try dsimp only at hc95
        all_goals exact absurd hc95 id
      · try dsimp only at hc95
        refine TC.skip' ?_
        refine TC.region ?_
        refine TL.run1 (pure_move rfl) rfl ?_
        refine TL.run1 (pure_move rfl) rfl ?_
        refine TL.run1 (pure_indexAddr Ty.sl61 rfl rfl (by omega) (by assumption) (List.cons_ne_nil _ _)) rfl ?_
        first | refine TL.run1 (pure_fieldAddr Ty.f65_0 rfl (.zero _) (List.cons_ne_nil _ _)) rfl ?_ | refine TL.run1 (pure_fieldAddr_own Ty.f65_0 rfl) rfl ?_
        first | refine TL.run1 (pure_load1 Ty.one3 rfl) rfl ?_ | refine TL.run1 (pure_load1_own Ty.one3 rfl (by repeat (first | exact List.Mem.head _ | apply List.Mem.tail)) (by repeat (first | exact DropR.zero _ | apply DropR.succ))) rfl ?_
        refine TL.run1 (pure_assign rfl) rfl ?_
        refine TL.nil ?_
        refine block_normal ?_
        refine then_normal ?_
        refine TC.region ?_
        refine TL.run1 (pure_move rfl) rfl ?_
        refine TL.run1 (pure_add rfl rfl (mkI64 (by omega) (by omega))) rfl ?_
        refine TL.run1 (pure_assign rfl) rfl ?_
        refine TL.nil ?_
        refine loop_next (i + 1, (hAt (diffP (ordP a) (ordP b)) i).key) ⟨by repeat (first | exact Agree.nil | refine Agree.cons rfl ?_), by repeat (first | exact List.nil_sublist _ | exact List.Sublist.refl _ | apply List.Sublist.cons_cons | apply List.Sublist.cons)⟩ ⟨by omega, by omega, fun _ => by rw [show i + 1 - 1 = i by omega]⟩ (by dsimp only; omega)
    · try dsimp only at hc35
      refine TC.exit ?_
      refine then_exit ?_
      refine loop_exit ?_
      refine block_here ?_
      refine then_normal ?_
      refine TC.seq ?_
      refine TC.region ?_
      refine TL.run1 (pure_move rfl) rfl ?_
      refine TL.run1 (pure_move rfl) rfl ?_
      refine TL.run1 (pure_call (RMerge_spec _ _ (by omega)) (.cons rfl (.cons rfl .nil)) Try.call23) rfl ?_
      refine TL.run1 (pure_assign rfl) rfl ?_
      refine TL.nil' ?_
      refine TC.seq ?_
      refine TC.seq ?_
      refine TC.region ?_
      refine TL.run1 (pure_assign rfl) rfl ?_
      refine TL.nil' ?_
      refine TC.block ?_
      refine TC.loopX (X := Int) (fun i => [(0, .sl 2 (encP (ordP a))), (1, .sl 2 (encP (ordP b))), (5, .sl 5 (encD (diffP (ordP a) (ordP b)))), (13, .sl 2 (encP (mergeR (ordP a) (ordP b)))), (7, .v (.int .i64 (cntD (ordP a) (ordP b) (mergeR (ordP a) (ordP b)) i.toNat))), (14, .v (.int .i64 i))]) (fun i => []) (fun i => (0 ≤ i) ∧ (i ≤ (mergeR (ordP a) (ordP b)).length)) (fun i => ((mergeR (ordP a) (ordP b)).length - i).toNat) (0) ⟨by skip; repeat (first | exact Agree.nil | refine Agree.cons rfl ?_), by skip; repeat (first | exact List.nil_sublist _ | exact List.Sublist.refl _ | apply List.Sublist.cons_cons | apply List.Sublist.cons)⟩ ?_ ?_
      · skip
        exact ⟨by omega, by omega⟩
      intro i
      rintro ⟨h0, h1⟩
      show TC _ _ _ (Env.of [(0, .sl 2 (encP (ordP a))), (1, .sl 2 (encP (ordP b))), (5, .sl 5 (encD (diffP (ordP a) (ordP b)))), (13, .sl 2 (encP (mergeR (ordP a) (ordP b)))), (7, .v (.int .i64 (cntD (ordP a) (ordP b) (mergeR (ordP a) (ordP b)) i.toNat))), (14, .v (.int .i64 i))]) []
      have hkd := encD_len (diffP (ordP a) (ordP b))
      have hka := encP_len (mergeR (ordP a) (ordP b))
      have hcb := cntD_bound (ordP a) (ordP b) (mergeR (ordP a) (ordP b)) i.toNat
      refine TC.seq ?_
      refine TC.seq ?_
      refine TC.region ?_
      refine TL.run1 (pure_move rfl) rfl ?_
      refine TL.run1 (pure_move rfl) rfl ?_
      first | refine TL.run1 (pure_len Ty.sl31 rfl) rfl ?_ | refine TL.run1 (pure_len_row Ty.sl31 rfl (by repeat (first | exact List.Mem.head _ | apply List.Mem.tail))) rfl ?_ | refine TL.run1 (pure_len_nil Ty.sl31 rfl) rfl ?_
      refine TL.run1 (pure_lss rfl rfl) rfl ?_
      refine TL.nil' ?_
      first | refine TC.condD rfl (fun hc107 => ?_) (fun hc107 => ?_) | refine TC.condN rfl (fun hc107 => ?_) (fun hc107 => ?_) | refine TC.cond rfl (fun hc107 => ?_) (fun hc107 => ?_)
      · try dsimp only at hc107
        refine TC.skip' ?_
        refine TC.seq ?_
        refine TC.block ?_
        refine TC.seq ?_
        have hrow := encP_get (mergeR (ordP a) (ordP b)) i (by omega) (by omega)
        refine TC.region ?_
        refine TL.run1 (pure_move rfl) rfl ?_
        refine TL.run1 (pure_move rfl) rfl ?_
        refine TL.run1 (pure_move rfl) rfl ?_
        refine TL.run1 (pure_indexAddr Ty.sl31 rfl rfl (by omega) (by assumption) (List.cons_ne_nil _ _)) rfl ?_
        first | refine TL.run1 (pure_fieldAddr Ty.f59_0 rfl (.zero _) (List.cons_ne_nil _ _)) rfl ?_ | refine TL.run1 (pure_fieldAddr_own Ty.f59_0 rfl) rfl ?_
        first | refine TL.run1 (pure_load1 Ty.one3 rfl) rfl ?_ | refine TL.run1 (pure_load1_own Ty.one3 rfl (by repeat (first | exact List.Mem.head _ | apply List.Mem.tail)) (by repeat (first | exact DropR.zero _ | apply DropR.succ))) rfl ?_
        first | refine TL.run1 (pure_call (RGet_spec (ordP a) _ (by omega)) (.cons rfl (.cons rfl .nil)) Try.call29) rfl ?_ | refine TL.run1 (pure_call (RGet_spec (ordP b) _ (by omega)) (.cons rfl (.cons rfl .nil)) Try.call29) rfl ?_
        refine TL.run1 (pure_move rfl) rfl ?_
        refine TL.run1 (pure_extract rfl rfl) rfl ?_
        refine TL.run1 (pure_extract rfl rfl) rfl ?_
        refine TL.run1 (pure_assign rfl) rfl ?_
        refine TL.run1 (pure_assign rfl) rfl ?_
        refine TL.nil' ?_
        refine TC.seq ?_
        refine TC.region ?_
        refine TL.run1 (pure_move rfl) rfl ?_
        refine TL.run1 (pure_move rfl) rfl ?_
        refine TL.run1 (pure_move rfl) rfl ?_
        refine TL.run1 (pure_indexAddr Ty.sl31 rfl rfl (by omega) (by assumption) (List.cons_ne_nil _ _)) rfl ?_
        first | refine TL.run1 (pure_fieldAddr Ty.f59_0 rfl (.zero _) (List.cons_ne_nil _ _)) rfl ?_ | refine TL.run1 (pure_fieldAddr_own Ty.f59_0 rfl) rfl ?_
        first | refine TL.run1 (pure_load1 Ty.one3 rfl) rfl ?_ | refine TL.run1 (pure_load1_own Ty.one3 rfl (by repeat (first | exact List.Mem.head _ | apply List.Mem.tail)) (by repeat (first | exact DropR.zero _ | apply DropR.succ))) rfl ?_
        first | refine TL.run1 (pure_call (RGet_spec (ordP a) _ (by omega)) (.cons rfl (.cons rfl .nil)) Try.call29) rfl ?_ | refine TL.run1 (pure_call (RGet_spec (ordP b) _ (by omega)) (.cons rfl (.cons rfl .nil)) Try.call29) rfl ?_
        refine TL.run1 (pure_move rfl) rfl ?_
        refine TL.run1 (pure_extract rfl rfl) rfl ?_
        refine TL.run1 (pure_extract rfl rfl) rfl ?_
        refine TL.run1 (pure_assign rfl) rfl ?_
        refine TL.run1 (pure_assign rfl) rfl ?_
        refine TL.nil' ?_
        refine TC.regionCut [130, 131, 132, 133, 134, 135, 136, 137] 137 ((lookP (ordP a) (pAt (mergeR (ordP a) (ordP b)) i).1).isSome ≠ (lookP (ordP b) (pAt (mergeR (ordP a) (ordP b)) i).1).isSome ∨ (lookP (ordP a) (pAt (mergeR (ordP a) (ordP b)) i).1).getD 0 ≠ (lookP (ordP b) (pAt (mergeR (ordP a) (ordP b)) i).1).getD 0) ?_ ?_
        · skip
          refine TL.run1 (pure_move rfl) rfl ?_
          refine TL.run1 (pure_move rfl) rfl ?_
          refine TL.run1 (pure_neq_bool Try.underlying4 rfl rfl) rfl ?_
          refine TL.run1 (pure_move rfl) rfl ?_
          first | refine TL.splitP 133 rfl (fun hg133 => ?_) (fun hg133 => ?_) | refine TL.split 133 rfl (fun hg133 => ?_) (fun hg133 => ?_)
          · try dsimp only at hg133
            refine TL.passG rfl rfl rfl rfl ?_
            refine TL.passG rfl rfl rfl rfl ?_
            refine TL.passG rfl rfl rfl rfl ?_
            refine TL.run1 (pure_pick_true rfl rfl) rfl ?_
            refine TL.cutEnd (by repeat (first | exact Same.refl _ _ | refine Same.put rfl ?_)) rfl ?_
            first | (simp only [decide_eq_true_eq, Bool.false_eq_true, false_iff, true_iff, iff_true, iff_false, Bool.not_eq_true]; omega) | (simp_all; done) | (simp_all; omega) | grind
          · try dsimp only at hg133
            refine TL.runG rfl rfl (pure_move rfl) rfl ?_
            refine TL.runG rfl rfl (pure_move rfl) rfl ?_
            refine TL.runG rfl rfl (pure_neq rfl rfl) rfl ?_
            refine TL.run1 (pure_pick_false rfl rfl) rfl ?_
            refine TL.cutEnd (by repeat (first | exact Same.refl _ _ | refine Same.put rfl ?_)) rfl ?_
            first | (simp only [decide_eq_true_eq, Bool.false_eq_true, false_iff, true_iff, iff_true, iff_false, Bool.not_eq_true]; omega) | (simp_all; done) | (simp_all; omega) | grind
        first | refine TC.condD rfl (fun hc137 => ?_) (fun hc137 => ?_) | refine TC.condN rfl (fun hc137 => ?_) (fun hc137 => ?_) | refine TC.cond rfl (fun hc137 => ?_) (fun hc137 => ?_)
        · try dsimp only at hc137
          refine TC.region ?_
          refine TL.run1 (pure_move rfl) rfl ?_
          refine TL.run1 (pure_add rfl rfl (mkI64 (by omega) (by omega))) rfl ?_
          refine TL.run1 (pure_assign rfl) rfl ?_
          refine TL.nil ?_
          refine block_normal ?_
          refine then_normal ?_
          refine TC.region ?_
          refine TL.run1 (pure_move rfl) rfl ?_
          refine TL.run1 (pure_add rfl rfl (mkI64 (by omega) (by omega))) rfl ?_
          refine TL.run1 (pure_assign rfl) rfl ?_
          refine TL.nil ?_
          have hcs := cntD_step (ordP a) (ordP b) (mergeR (ordP a) (ordP b)) i h0
          rw [if_pos hc137] at hcs
          refine loop_next (i + 1) ⟨by rw [hcs]; repeat (first | exact Agree.nil | refine Agree.cons rfl ?_), by repeat (first | exact List.nil_sublist _ | exact List.Sublist.refl _ | apply List.Sublist.cons_cons | apply List.Sublist.cons)⟩ ⟨by omega, by omega⟩ (by omega)
        · try dsimp only at hc137
          refine TC.skip ?_
          refine block_normal ?_
          refine then_normal ?_
          refine TC.region ?_
          refine TL.run1 (pure_move rfl) rfl ?_
          refine TL.run1 (pure_add rfl rfl (mkI64 (by omega) (by omega))) rfl ?_
          refine TL.run1 (pure_assign rfl) rfl ?_
          refine TL.nil ?_
          have hcs := cntD_step (ordP a) (ordP b) (mergeR (ordP a) (ordP b)) i h0
          rw [if_neg hc137] at hcs
          refine loop_next (i + 1) ⟨by rw [hcs]; repeat (first | exact Agree.nil | refine Agree.cons rfl ?_), by repeat (first | exact List.nil_sublist _ | exact List.Sublist.refl _ | apply List.Sublist.cons_cons | apply List.Sublist.cons)⟩ ⟨by omega, by omega⟩ (by omega)
      · try dsimp only at hc107
        refine TC.exit ?_
        refine then_exit ?_
        refine loop_exit ?_
        refine block_here ?_
        refine then_normal ?_
        refine TC.seq ?_
        refine TC.region ?_
        refine TL.run1 (pure_move rfl) rfl ?_
        refine TL.run1 (pure_move rfl) rfl ?_
        first | refine TL.run1 (pure_call (ApplyD_spec (ordP a) (ordP b) ha hb (by omega)) (.cons rfl (.cons rfl .nil)) Try.call41) rfl ?_ | refine TL.run1 (pure_call (ApplyI_spec (ordP a) (ordP b) ha hb (by omega)) (.cons rfl (.cons rfl .nil)) Try.call41) rfl ?_
        refine TL.run1 (pure_move rfl) rfl ?_
        refine TL.run1 (pure_extract rfl rfl) rfl ?_
        refine TL.run1 (pure_extract rfl rfl) rfl ?_
        refine TL.run1 (pure_assign rfl) rfl ?_
        refine TL.run1 (pure_assign rfl) rfl ?_
        refine TL.nil' ?_
        refine TC.seq ?_
        refine TC.region ?_
        refine TL.run1 (pure_move rfl) rfl ?_
        refine TL.run1 (pure_move rfl) rfl ?_
        refine TL.run1 (pure_call (Inverse_spec (diffP (ordP a) (ordP b)) (by omega)) (.cons rfl .nil) Try.call43) rfl ?_
        first | refine TL.run1 (pure_call (ApplyD_spec (ordP a) (ordP b) ha hb (by omega)) (.cons rfl (.cons rfl .nil)) Try.call41) rfl ?_ | refine TL.run1 (pure_call (ApplyI_spec (ordP a) (ordP b) ha hb (by omega)) (.cons rfl (.cons rfl .nil)) Try.call41) rfl ?_
        refine TL.run1 (pure_move rfl) rfl ?_
        refine TL.run1 (pure_extract rfl rfl) rfl ?_
        refine TL.run1 (pure_extract rfl rfl) rfl ?_
        refine TL.run1 (pure_assign rfl) rfl ?_
        refine TL.run1 (pure_assign rfl) rfl ?_
        refine TL.nil' ?_
        have hcd := cntD_diff ha hb
        rw [show (mergeR (ordP a) (ordP b)).length = i.toNat by omega] at hcd
        refine TC.regionCut [153, 154, 155, 156, 157, 158, 159, 160, 161, 162, 163, 164, 165, 166, 167, 168, 169, 170, 171, 172, 173, 174, 4] 4 (True) ?_ ?_
        · skip
          refine TL.run1 (pure_move rfl) rfl ?_
          refine TL.run1 (pure_move rfl) rfl ?_
          first | refine TL.run1 (pure_len Ty.sl61 rfl) rfl ?_ | refine TL.run1 (pure_len_row Ty.sl61 rfl (by repeat (first | exact List.Mem.head _ | apply List.Mem.tail))) rfl ?_ | refine TL.run1 (pure_len_nil Ty.sl61 rfl) rfl ?_
          refine TL.run1 (pure_eql rfl rfl) rfl ?_
          refine TL.run1 (pure_move rfl) rfl ?_
          first | refine TL.splitP 157 rfl (fun hg157 => ?_) (fun hg157 => ?_) | refine TL.split 157 rfl (fun hg157 => ?_) (fun hg157 => ?_)
          · try dsimp only at hg157
            refine TL.runG rfl rfl (pure_move rfl) rfl ?_
            refine TL.runG rfl rfl (pure_eql rfl rfl) rfl ?_
            refine TL.run1 (pure_pick_true rfl rfl) rfl ?_
            refine TL.run1 (pure_move rfl) rfl ?_
            first | refine TL.splitP 161 rfl (fun hg161 => ?_) (fun hg161 => ?_) | refine TL.split 161 rfl (fun hg161 => ?_) (fun hg161 => ?_)
            · try dsimp only at hg161
              refine TL.runG rfl rfl (pure_move rfl) rfl ?_
              refine TL.runG rfl rfl (pure_eql rfl rfl) rfl ?_
              refine TL.run1 (pure_pick_true rfl rfl) rfl ?_
              refine TL.run1 (pure_move rfl) rfl ?_
              first | refine TL.splitP 165 rfl (fun hg165 => ?_) (fun hg165 => ?_) | refine TL.split 165 rfl (fun hg165 => ?_) (fun hg165 => ?_)
              · try dsimp only at hg165
                refine TL.runG rfl rfl (pure_move rfl) rfl ?_
                refine TL.runG rfl rfl (pure_move rfl) rfl ?_
                refine TL.runG rfl rfl (pure_call (REqual_spec _ _ (by omega)) (.cons rfl (.cons rfl .nil)) Try.call22) rfl ?_
                refine TL.run1 (pure_pick_true rfl rfl) rfl ?_
                refine TL.run1 (pure_move rfl) rfl ?_
                first | refine TL.splitP 170 rfl (fun hg170 => ?_) (fun hg170 => ?_) | refine TL.split 170 rfl (fun hg170 => ?_) (fun hg170 => ?_)
                · try dsimp only at hg170
                  refine TL.runG rfl rfl (pure_move rfl) rfl ?_
                  refine TL.runG rfl rfl (pure_move rfl) rfl ?_
                  refine TL.runG rfl rfl (pure_call (REqual_spec _ _ (by omega)) (.cons rfl (.cons rfl .nil)) Try.call22) rfl ?_
                  refine TL.run1 (pure_pick_true rfl rfl) rfl ?_
                  refine TL.run1 (pure_assign rfl) rfl ?_
                  refine TL.cutEnd (by repeat (first | exact Same.refl _ _ | refine Same.put rfl ?_)) rfl ?_
                  first | (simp_all; done) | grind
                · try dsimp only at hg170
                  refine TL.passG rfl rfl rfl rfl ?_
                  refine TL.passG rfl rfl rfl rfl ?_
                  refine TL.passG rfl rfl rfl rfl ?_
                  refine TL.run1 (pure_pick_false rfl rfl) rfl ?_
                  refine TL.run1 (pure_assign rfl) rfl ?_
                  refine TL.cutEnd (by repeat (first | exact Same.refl _ _ | refine Same.put rfl ?_)) rfl ?_
                  first | (simp_all; done) | grind
              · try dsimp only at hg165
                refine TL.passG rfl rfl rfl rfl ?_
                refine TL.passG rfl rfl rfl rfl ?_
                refine TL.passG rfl rfl rfl rfl ?_
                refine TL.run1 (pure_pick_false rfl rfl) rfl ?_
                refine TL.run1 (pure_move rfl) rfl ?_
                refine TL.passG rfl rfl rfl rfl ?_
                refine TL.passG rfl rfl rfl rfl ?_
                refine TL.passG rfl rfl rfl rfl ?_
                refine TL.run1 (pure_pick_false rfl rfl) rfl ?_
                refine TL.run1 (pure_assign rfl) rfl ?_
                refine TL.cutEnd (by repeat (first | exact Same.refl _ _ | refine Same.put rfl ?_)) rfl ?_
                first | (simp_all; done) | grind
            · try dsimp only at hg161
              refine TL.passG rfl rfl rfl rfl ?_
              refine TL.passG rfl rfl rfl rfl ?_
              refine TL.run1 (pure_pick_false rfl rfl) rfl ?_
              refine TL.run1 (pure_move rfl) rfl ?_
              refine TL.passG rfl rfl rfl rfl ?_
              refine TL.passG rfl rfl rfl rfl ?_
              refine TL.passG rfl rfl rfl rfl ?_
              refine TL.run1 (pure_pick_false rfl rfl) rfl ?_
              refine TL.run1 (pure_move rfl) rfl ?_
              refine TL.passG rfl rfl rfl rfl ?_
              refine TL.passG rfl rfl rfl rfl ?_
              refine TL.passG rfl rfl rfl rfl ?_
              refine TL.run1 (pure_pick_false rfl rfl) rfl ?_
              refine TL.run1 (pure_assign rfl) rfl ?_
              refine TL.cutEnd (by repeat (first | exact Same.refl _ _ | refine Same.put rfl ?_)) rfl ?_
              first | (simp_all; done) | grind
          · try dsimp only at hg157
            refine TL.passG rfl rfl rfl rfl ?_
            refine TL.passG rfl rfl rfl rfl ?_
            refine TL.run1 (pure_pick_false rfl rfl) rfl ?_
            refine TL.run1 (pure_move rfl) rfl ?_
            refine TL.passG rfl rfl rfl rfl ?_
            refine TL.passG rfl rfl rfl rfl ?_
            refine TL.run1 (pure_pick_false rfl rfl) rfl ?_
            refine TL.run1 (pure_move rfl) rfl ?_
            refine TL.passG rfl rfl rfl rfl ?_
            refine TL.passG rfl rfl rfl rfl ?_
            refine TL.passG rfl rfl rfl rfl ?_
            refine TL.run1 (pure_pick_false rfl rfl) rfl ?_
            refine TL.run1 (pure_move rfl) rfl ?_
            refine TL.passG rfl rfl rfl rfl ?_
            refine TL.passG rfl rfl rfl rfl ?_
            refine TL.passG rfl rfl rfl rfl ?_
            refine TL.run1 (pure_pick_false rfl rfl) rfl ?_
            refine TL.run1 (pure_assign rfl) rfl ?_
            refine TL.cutEnd (by repeat (first | exact Same.refl _ _ | refine Same.put rfl ?_)) rfl ?_
            first | (simp_all; done) | grind
        refine TC.ret ?_
        exact ret_bool rfl (by simp)
end Go.Ob
