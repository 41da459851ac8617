import Derived.Test.YtcmkgijekibdaaaS25
set_option linter.unusedVariables false
set_option linter.unusedSimpArgs false
namespace Go.Ob
open Go.Proofs
set_option maxHeartbeats 1000000 in
set_option maxRecDepth 100000 in
theorem StylesheetRemoves_spec (l : List Sty) (id : Int) (hlal : l.length ≤ 9223372036854775807) : Fun Try.prog 11 [.sl 6 (encSs l), .v (.int .i64 id)] (.v (.bool true)) := by
  refine Fun.enter (n := 100) (rs := [.tmp 4]) Try.func11 rfl Try.ntmps11 Try.results11 rfl (fun w F => ?_)
  refine TC.seq ?_; refine TC.region ?_; refine TL.run1 (pure_assign rfl) rfl ?_; refine TL.nil' ?_; refine TC.seq ?_; refine TC.regionCut [13, 14, 15, 16, 17, 18, 19] 19 (¬ SmallP l) ?_ ?_
  · skip
    refine TL.run1 (pure_call (known_spec) .nil Try.call13) rfl ?_; refine TL.run1 (pure_not rfl) rfl ?_; refine TL.run1 (pure_move rfl) rfl ?_
    first | refine TL.splitP 15 rfl (fun hg15 => ?_) (fun hg15 => ?_) | refine TL.split 15 rfl (fun hg15 => ?_) (fun hg15 => ?_)
    · try dsimp only at hg15
      refine TL.passG rfl rfl rfl rfl ?_; refine TL.passG rfl rfl rfl rfl ?_; refine TL.passG rfl rfl rfl rfl ?_; refine TL.run1 (pure_pick_true rfl rfl) rfl ?_; refine TL.cutEnd (by repeat (first | exact Same.refl _ _ | refine Same.put rfl ?_)) rfl ?_
      first | (simp only [decide_eq_true_eq, Bool.false_eq_true, false_iff, true_iff, iff_true, iff_false, Bool.not_eq_true]; omega) | (simp_all; done) | (simp_all; omega) | grind
    · try dsimp only at hg15
      refine TL.runG rfl rfl (pure_move rfl) rfl ?_; refine TL.runG rfl rfl (pure_call (Small_spec l hlal) (.cons rfl .nil) Try.call14) rfl ?_; refine TL.runG rfl rfl (pure_not rfl) rfl ?_; refine TL.run1 (pure_pick_false rfl rfl) rfl ?_; refine TL.cutEnd (by repeat (first | exact Same.refl _ _ | refine Same.put rfl ?_)) rfl ?_
      first | (simp only [decide_eq_true_eq, Bool.false_eq_true, false_iff, true_iff, iff_true, iff_false, Bool.not_eq_true]; omega) | (simp_all; done) | (simp_all; omega) | grind
  first | refine TC.condD rfl (fun hc19 => ?_) (fun hc19 => ?_) | refine TC.condN rfl (fun hc19 => ?_) (fun hc19 => ?_) | refine TC.cond rfl (fun hc19 => ?_) (fun hc19 => ?_)
  · try dsimp only at hc19
    refine TC.seq ?_; refine TC.region ?_; refine TL.run1 (pure_call (known_spec) .nil Try.call13) rfl ?_; refine TL.run1 (pure_assign rfl) rfl ?_; refine TL.nil' ?_; refine TC.ret ?_; refine then_ret ?_
    exact ret_bool rfl (by first | rfl | simp | simp_all)
  · try dsimp only at hc19
    have hs : SmallP l := Classical.not_not.1 hc19
    obtain ⟨hl24, hsm⟩ := hs
    have hl : l.length ≤ 1000000 := by omega
    have hn : ∀ i, i < l.length → (yAt l i).name.size ≤ 1000000000 := fun i hi => by have := (hsm i hi).2; omega
    have hp : ∀ i, i < l.length → (yAt l i).props.length ≤ 1000000 := fun i hi => by have := (hsm i hi).1; omega
    have hfr := findS_range l id
    have hnil : (encSs []).length = 0 := rfl
    refine TC.skip' ?_; refine TC.seq ?_; refine TC.region ?_; refine TL.run1 (pure_move rfl) rfl ?_; refine TL.run1 (pure_move rfl) rfl ?_; refine TL.run1 (pure_call (SRemove_spec l id hl hn hp) (.cons rfl (.cons rfl .nil)) Try.call39) rfl ?_; refine TL.run1 (pure_move rfl) rfl ?_; refine TL.run1 (pure_extract rfl rfl) rfl ?_; refine TL.run1 (pure_extract rfl rfl) rfl ?_; refine TL.run1 (pure_assign rfl) rfl ?_; refine TL.run1 (pure_assign rfl) rfl ?_; refine TL.nil' ?_; refine TC.seq ?_; refine TC.region ?_; refine TL.run1 (pure_move rfl) rfl ?_; refine TL.run1 (pure_call (R8Check_spec l hl hn hp) (.cons rfl .nil) Try.call16) rfl ?_; refine TL.run1 (pure_assign rfl) rfl ?_; refine TL.nil' ?_; refine TC.seq ?_; refine TC.regionCut [29, 30, 31, 32, 33, 34, 35, 36] 36 (checkS l = 0 ∧ ¬ 0 ≤ findS l id) ?_ ?_
    · skip
      refine TL.run1 (pure_move rfl) rfl ?_; refine TL.run1 (pure_eql rfl rfl) rfl ?_; refine TL.run1 (pure_move rfl) rfl ?_
      first | refine TL.splitP 31 rfl (fun hg31 => ?_) (fun hg31 => ?_) | refine TL.split 31 rfl (fun hg31 => ?_) (fun hg31 => ?_)
      · try dsimp only at hg31
        refine TL.runG rfl rfl (pure_move rfl) rfl ?_; refine TL.runG rfl rfl (pure_move rfl) rfl ?_; refine TL.runG rfl rfl (pure_call (RFind_spec l id hl) (.cons rfl (.cons rfl .nil)) Try.call26) rfl ?_; refine TL.runG rfl rfl (pure_lss rfl rfl) rfl ?_; refine TL.run1 (pure_pick_true rfl rfl) rfl ?_; refine TL.cutEnd (by repeat (first | exact Same.refl _ _ | refine Same.put rfl ?_)) rfl ?_
        first | (simp only [decide_eq_true_eq, Bool.false_eq_true, false_iff, true_iff, iff_true, iff_false, Bool.not_eq_true]; omega) | (simp_all; done) | (simp_all; omega) | grind
      · try dsimp only at hg31
        refine TL.passG rfl rfl rfl rfl ?_; refine TL.passG rfl rfl rfl rfl ?_; refine TL.passG rfl rfl rfl rfl ?_; refine TL.passG rfl rfl rfl rfl ?_; refine TL.run1 (pure_pick_false rfl rfl) rfl ?_; refine TL.cutEnd (by repeat (first | exact Same.refl _ _ | refine Same.put rfl ?_)) rfl ?_
        first | (simp only [decide_eq_true_eq, Bool.false_eq_true, false_iff, true_iff, iff_true, iff_false, Bool.not_eq_true]; omega) | (simp_all; done) | (simp_all; omega) | grind
    first | refine TC.condD rfl (fun hc36 => ?_) (fun hc36 => ?_) | refine TC.condN rfl (fun hc36 => ?_) (fun hc36 => ?_) | refine TC.cond rfl (fun hc36 => ?_) (fun hc36 => ?_)
    · try dsimp only at hc36
      have hE : foundE l id = 8 := by (unfold foundE; rw [if_neg (by simp [hc36.1]), if_neg hc36.2])
      have hV : rmV l id = [] := by (unfold rmV; rw [hE, if_neg (by decide)])
      rw [hV, hE]
      refine TC.region ?_; refine TL.run1 (pure_assign rfl) rfl ?_; refine TL.nil' ?_; refine TC.seq ?_; refine TC.seq ?_; refine TC.region ?_; refine TL.run1 (pure_move rfl) rfl ?_; refine TL.run1 (pure_neq rfl rfl) rfl ?_; refine TL.nil' ?_
      first | refine TC.condD rfl (fun hc38 => ?_) (fun hc38 => ?_) | refine TC.condN rfl (fun hc38 => ?_) (fun hc38 => ?_) | refine TC.cond rfl (fun hc38 => ?_) (fun hc38 => ?_)
      · try dsimp only at hc38
        refine TC.regionCut [39, 40, 41, 42, 43, 44, 45, 46, 4] 4 (True) ?_ ?_
        · skip
          refine TL.run1 (pure_move rfl) rfl ?_
          first | refine TL.run1 (pure_len Ty.sl22 rfl) rfl ?_ | refine TL.run1 (pure_len_row Ty.sl22 rfl (by repeat (first | exact List.Mem.head _ | apply List.Mem.tail))) rfl ?_ | refine TL.run1 (pure_len_nil Ty.sl22 rfl) rfl ?_
          refine TL.run1 (pure_eql rfl rfl) rfl ?_; refine TL.run1 (pure_move rfl) rfl ?_
          first | refine TL.splitP 42 rfl (fun hg42 => ?_) (fun hg42 => ?_) | refine TL.split 42 rfl (fun hg42 => ?_) (fun hg42 => ?_)
          · try dsimp only at hg42
            refine TL.runG rfl rfl (pure_move rfl) rfl ?_; refine TL.runG rfl rfl (pure_move rfl) rfl ?_; refine TL.runG rfl rfl (pure_eql rfl rfl) rfl ?_; refine TL.run1 (pure_pick_true rfl rfl) rfl ?_; refine TL.run1 (pure_assign rfl) rfl ?_; refine TL.cutEnd (by repeat (first | exact Same.refl _ _ | refine Same.put rfl ?_)) rfl ?_
            first | (simp only [decide_eq_true_eq, Bool.false_eq_true, false_iff, true_iff, iff_true, iff_false, Bool.not_eq_true]; omega) | (simp_all; done) | (simp_all; omega) | grind
          · try dsimp only at hg42
            refine TL.passG rfl rfl rfl rfl ?_; refine TL.passG rfl rfl rfl rfl ?_; refine TL.passG rfl rfl rfl rfl ?_; refine TL.run1 (pure_pick_false rfl rfl) rfl ?_; refine TL.run1 (pure_assign rfl) rfl ?_; refine TL.cutEnd (by repeat (first | exact Same.refl _ _ | refine Same.put rfl ?_)) rfl ?_
            first | (simp only [decide_eq_true_eq, Bool.false_eq_true, false_iff, true_iff, iff_true, iff_false, Bool.not_eq_true]; omega) | (simp_all; done) | (simp_all; omega) | grind
        refine TC.ret ?_; refine then_ret ?_
        exact ret_bool rfl (by first | rfl | simp | simp_all)
      · try dsimp only at hc38
        exact absurd (by decide) hc38
    · try dsimp only at hc36
      refine TC.skip' ?_; refine TC.seq ?_; refine TC.seq ?_; refine TC.region ?_; refine TL.run1 (pure_move rfl) rfl ?_; refine TL.run1 (pure_neq rfl rfl) rfl ?_; refine TL.nil' ?_
      first | refine TC.condD rfl (fun hc38 => ?_) (fun hc38 => ?_) | refine TC.condN rfl (fun hc38 => ?_) (fun hc38 => ?_) | refine TC.cond rfl (fun hc38 => ?_) (fun hc38 => ?_)
      · try dsimp only at hc38
        have hE : foundE l id = checkS l := by (unfold foundE; rw [if_pos hc38])
        have hV : rmV l id = [] := by (unfold rmV; rw [hE, if_neg hc38])
        rw [hV, hE]
        refine TC.regionCut [39, 40, 41, 42, 43, 44, 45, 46, 4] 4 (True) ?_ ?_
        · skip
          refine TL.run1 (pure_move rfl) rfl ?_
          first | refine TL.run1 (pure_len Ty.sl22 rfl) rfl ?_ | refine TL.run1 (pure_len_row Ty.sl22 rfl (by repeat (first | exact List.Mem.head _ | apply List.Mem.tail))) rfl ?_ | refine TL.run1 (pure_len_nil Ty.sl22 rfl) rfl ?_
          refine TL.run1 (pure_eql rfl rfl) rfl ?_; refine TL.run1 (pure_move rfl) rfl ?_
          first | refine TL.splitP 42 rfl (fun hg42 => ?_) (fun hg42 => ?_) | refine TL.split 42 rfl (fun hg42 => ?_) (fun hg42 => ?_)
          · try dsimp only at hg42
            refine TL.runG rfl rfl (pure_move rfl) rfl ?_; refine TL.runG rfl rfl (pure_move rfl) rfl ?_; refine TL.runG rfl rfl (pure_eql rfl rfl) rfl ?_; refine TL.run1 (pure_pick_true rfl rfl) rfl ?_; refine TL.run1 (pure_assign rfl) rfl ?_; refine TL.cutEnd (by repeat (first | exact Same.refl _ _ | refine Same.put rfl ?_)) rfl ?_
            first | (simp only [decide_eq_true_eq, Bool.false_eq_true, false_iff, true_iff, iff_true, iff_false, Bool.not_eq_true]; omega) | (simp_all; done) | (simp_all; omega) | grind
          · try dsimp only at hg42
            refine TL.passG rfl rfl rfl rfl ?_; refine TL.passG rfl rfl rfl rfl ?_; refine TL.passG rfl rfl rfl rfl ?_; refine TL.run1 (pure_pick_false rfl rfl) rfl ?_; refine TL.run1 (pure_assign rfl) rfl ?_; refine TL.cutEnd (by repeat (first | exact Same.refl _ _ | refine Same.put rfl ?_)) rfl ?_
            first | (simp only [decide_eq_true_eq, Bool.false_eq_true, false_iff, true_iff, iff_true, iff_false, Bool.not_eq_true]; omega) | (simp_all; done) | (simp_all; omega) | grind
        refine TC.ret ?_; refine then_ret ?_
        exact ret_bool rfl (by first | rfl | simp | simp_all)
      · try dsimp only at hc38
        have hg := checkS_good.1 (Classical.not_not.1 hc38)
        have hfd : 0 ≤ findS l id := Classical.byContradiction fun h => hc36 ⟨Classical.not_not.1 hc38, h⟩
        have hE := foundE_is hg hfd
        have hV : rmV l id = (rmS l id) := by (unfold rmV; rw [if_pos hE])
        rw [hV, hE]
        have hmg := rmS_good hg hfd
        have hml : (rmS l id).length ≤ 1000000 := by (have := hmg.len; omega)
        have hmn := hmg.names
        have hmp := hmg.plens
        have hmc : checkS (rmS l id) = 0 := checkS_good.2 hmg
        have hkm := encSs_len (rmS l id)
        refine TC.skip' ?_; refine TC.seq ?_; refine TC.regionCut [47, 48, 49, 50, 51, 52, 53, 54, 55, 56, 57, 58, 59, 60, 61] 61 (False) ?_ ?_
        · skip
          refine TL.run1 (pure_move rfl) rfl ?_; refine TL.run1 (pure_neq rfl rfl) rfl ?_; refine TL.run1 (pure_move rfl) rfl ?_
          first | refine TL.splitP 49 rfl (fun hg49 => ?_) (fun hg49 => ?_) | refine TL.split 49 rfl (fun hg49 => ?_) (fun hg49 => ?_)
          · try dsimp only at hg49
            refine TL.passG rfl rfl rfl rfl ?_; refine TL.passG rfl rfl rfl rfl ?_; refine TL.passG rfl rfl rfl rfl ?_; refine TL.passG rfl rfl rfl rfl ?_; refine TL.passG rfl rfl rfl rfl ?_; refine TL.passG rfl rfl rfl rfl ?_; refine TL.run1 (pure_pick_true rfl rfl) rfl ?_; refine TL.run1 (pure_move rfl) rfl ?_; refine TL.passG rfl rfl rfl rfl ?_; refine TL.passG rfl rfl rfl rfl ?_; refine TL.passG rfl rfl rfl rfl ?_; refine TL.run1 (pure_pick_true rfl rfl) rfl ?_; refine TL.cutEnd (by repeat (first | exact Same.refl _ _ | refine Same.put rfl ?_)) rfl ?_
            first | (simp; done) | (simp_all; done)
          · try dsimp only at hg49
            refine TL.runG rfl rfl (pure_move rfl) rfl ?_; refine TL.runG rfl rfl (pure_move rfl) rfl ?_; refine TL.runG rfl rfl (pure_move rfl) rfl ?_; refine TL.runG rfl rfl (pure_call (RRemove_spec l id hg hfd) (.cons rfl (.cons rfl .nil)) Try.call40) rfl ?_; refine TL.runG rfl rfl (pure_call (REqual_spec (rmS l id) (rmS l id) hmp hml) (.cons rfl (.cons rfl .nil)) Try.call35) rfl ?_; refine TL.runG rfl rfl (pure_not rfl) rfl ?_; refine TL.run1 (pure_pick_false rfl rfl) rfl ?_; refine TL.run1 (pure_move rfl) rfl ?_
            first | refine TL.splitP 57 rfl (fun hg57 => ?_) (fun hg57 => ?_) | refine TL.split 57 rfl (fun hg57 => ?_) (fun hg57 => ?_)
            · try dsimp only at hg57
              refine TL.passG rfl rfl rfl rfl ?_; refine TL.passG rfl rfl rfl rfl ?_; refine TL.passG rfl rfl rfl rfl ?_; refine TL.run1 (pure_pick_true rfl rfl) rfl ?_; refine TL.cutEnd (by repeat (first | exact Same.refl _ _ | refine Same.put rfl ?_)) rfl ?_
              first | (simp; done) | (simp_all; done)
            · try dsimp only at hg57
              refine TL.runG rfl rfl (pure_move rfl) rfl ?_; refine TL.runG rfl rfl (pure_call (SCheck_spec (rmS l id) hml hmn hmp) (.cons rfl .nil) Try.call15) rfl ?_; refine TL.runG rfl rfl (pure_neq rfl rfl) rfl ?_; refine TL.run1 (pure_pick_false rfl rfl) rfl ?_; refine TL.cutEnd (by repeat (first | exact Same.refl _ _ | refine Same.put rfl ?_)) rfl ?_
              first | (simp; done) | (simp_all; done)
        first | refine TC.condD rfl (fun hc61 => ?_) (fun hc61 => ?_) | refine TC.condN rfl (fun hc61 => ?_) (fun hc61 => ?_) | refine TC.cond rfl (fun hc61 => ?_) (fun hc61 => ?_)
        · try dsimp only at hc61
          all_goals exact absurd hc61 id
        · try dsimp only at hc61
          refine TC.skip' ?_; refine TC.seq ?_; refine TC.seq ?_; refine TC.region ?_; refine TL.run1 (pure_assign rfl) rfl ?_; refine TL.nil' ?_; refine TC.block ?_; refine TC.loopX (X := Nat) (fun i => [(0, .sl 6 (encSs l)), (5, .sl 6 (encSs (rmS l id))), (8, .v (.int .i64 i))]) (fun i => []) (fun i => (i ≤ (rmS l id).length)) (fun i => (rmS l id).length - i) (0) ⟨by skip; repeat (first | exact Agree.nil | refine Agree.cons rfl ?_), by skip; repeat (first | exact List.nil_sublist _ | exact List.Sublist.refl _ | apply List.Sublist.cons_cons | apply List.Sublist.cons)⟩ ?_ ?_
          · skip
            exact Nat.zero_le _
          intro i
          intro h1
          show TC _ _ _ (Env.of [(0, .sl 6 (encSs l)), (5, .sl 6 (encSs (rmS l id))), (8, .v (.int .i64 i))]) []
          refine TC.seq ?_; refine TC.seq ?_; refine TC.region ?_; refine TL.run1 (pure_move rfl) rfl ?_; refine TL.run1 (pure_move rfl) rfl ?_
          first | refine TL.run1 (pure_len Ty.sl22 rfl) rfl ?_ | refine TL.run1 (pure_len_row Ty.sl22 rfl (by repeat (first | exact List.Mem.head _ | apply List.Mem.tail))) rfl ?_ | refine TL.run1 (pure_len_nil Ty.sl22 rfl) rfl ?_
          refine TL.run1 (pure_lss rfl rfl) rfl ?_; refine TL.nil' ?_
          first | refine TC.condD rfl (fun hc65 => ?_) (fun hc65 => ?_) | refine TC.condN rfl (fun hc65 => ?_) (fun hc65 => ?_) | refine TC.cond rfl (fun hc65 => ?_) (fun hc65 => ?_)
          · try dsimp only at hc65
            refine TC.skip' ?_; refine TC.seq ?_; refine TC.block ?_; refine TC.seq ?_
            have hil : i < (rmS l id).length := by omega
            have hrow := encSs_get (rmS l id) i hil
            obtain ⟨s, hs, hne, hse⟩ := rmS_mem.1 (yAt_mem hil)
            have hsi : s.id = (yAt (rmS l id) i).id := by (rw [← hse]; rfl)
            have hf1 : 0 ≤ findS l (yAt (rmS l id) i).id := by (rw [← hsi]; exact (hg.inc.mem hs).1)
            have hf2 := (hmg.inc.mem (yAt_mem hil)).1
            have he1 := foundE_is hg hf1
            have he2 := foundE_is hmg hf2
            have hv1 := effV_ok hg hf1
            have hv2 : effV (rmS l id) (yAt (rmS l id) i).id = effP l (yAt (rmS l id) i).id := by (rw [effV_ok hmg hf2, ← hsi]; exact rmS_eff hg hfd hs hne)
            have hpe : (effP l (yAt (rmS l id) i).id).length ≤ 1000000 := by (have := (hg.effP (.inr hf1)).len; omega)
            refine TC.region ?_; refine TL.run1 (pure_move rfl) rfl ?_; refine TL.run1 (pure_move rfl) rfl ?_; refine TL.run1 (pure_move rfl) rfl ?_; refine TL.run1 (pure_indexAddr Ty.sl22 rfl rfl (by omega) hrow (List.cons_ne_nil _ _)) rfl ?_
            first | refine TL.run1 (pure_fieldAddr Ty.f28_0 rfl (.zero _) (List.cons_ne_nil _ _)) rfl ?_ | refine TL.run1 (pure_fieldAddr_own Ty.f28_0 rfl) rfl ?_
            first | refine TL.run1 (pure_load1 Ty.one3 rfl) rfl ?_ | refine TL.run1 (pure_load1_own Ty.one3 rfl (by repeat (first | exact List.Mem.head _ | apply List.Mem.tail)) (by repeat (first | exact DropR.zero _ | apply DropR.succ))) rfl ?_
            first | refine TL.run1 (pure_call (SEffective_spec l (yAt (rmS l id) i).id hl hn hp) (.cons rfl (.cons rfl .nil)) Try.call32) rfl ?_ | refine TL.run1 (pure_call (SEffective_spec (rmS l id) (yAt (rmS l id) i).id hml hmn hmp) (.cons rfl (.cons rfl .nil)) Try.call32) rfl ?_
            refine TL.run1 (pure_move rfl) rfl ?_; refine TL.run1 (pure_extract rfl rfl) rfl ?_; refine TL.run1 (pure_extract rfl rfl) rfl ?_; refine TL.run1 (pure_assign rfl) rfl ?_; refine TL.run1 (pure_assign rfl) rfl ?_; refine TL.nil' ?_; refine TC.seq ?_; refine TC.region ?_; refine TL.run1 (pure_move rfl) rfl ?_; refine TL.run1 (pure_move rfl) rfl ?_; refine TL.run1 (pure_move rfl) rfl ?_; refine TL.run1 (pure_indexAddr Ty.sl22 rfl rfl (by omega) hrow (List.cons_ne_nil _ _)) rfl ?_
            first | refine TL.run1 (pure_fieldAddr Ty.f28_0 rfl (.zero _) (List.cons_ne_nil _ _)) rfl ?_ | refine TL.run1 (pure_fieldAddr_own Ty.f28_0 rfl) rfl ?_
            first | refine TL.run1 (pure_load1 Ty.one3 rfl) rfl ?_ | refine TL.run1 (pure_load1_own Ty.one3 rfl (by repeat (first | exact List.Mem.head _ | apply List.Mem.tail)) (by repeat (first | exact DropR.zero _ | apply DropR.succ))) rfl ?_
            first | refine TL.run1 (pure_call (SEffective_spec l (yAt (rmS l id) i).id hl hn hp) (.cons rfl (.cons rfl .nil)) Try.call32) rfl ?_ | refine TL.run1 (pure_call (SEffective_spec (rmS l id) (yAt (rmS l id) i).id hml hmn hmp) (.cons rfl (.cons rfl .nil)) Try.call32) rfl ?_
            refine TL.run1 (pure_move rfl) rfl ?_; refine TL.run1 (pure_extract rfl rfl) rfl ?_; refine TL.run1 (pure_extract rfl rfl) rfl ?_; refine TL.run1 (pure_assign rfl) rfl ?_; refine TL.run1 (pure_assign rfl) rfl ?_; refine TL.nil' ?_
            rw [hv1, hv2, he1, he2]
            refine TC.regionCut [88, 89, 90, 91, 92, 93, 94, 95, 96, 97, 98, 99] 99 (False) ?_ ?_
            · skip
              refine TL.run1 (pure_move rfl) rfl ?_; refine TL.run1 (pure_neq rfl rfl) rfl ?_; refine TL.run1 (pure_move rfl) rfl ?_
              first | refine TL.splitP 90 rfl (fun hg90 => ?_) (fun hg90 => ?_) | refine TL.split 90 rfl (fun hg90 => ?_) (fun hg90 => ?_)
              · try dsimp only at hg90
                refine TL.passG rfl rfl rfl rfl ?_; refine TL.passG rfl rfl rfl rfl ?_; refine TL.run1 (pure_pick_true rfl rfl) rfl ?_; refine TL.run1 (pure_move rfl) rfl ?_; refine TL.passG rfl rfl rfl rfl ?_; refine TL.passG rfl rfl rfl rfl ?_; refine TL.passG rfl rfl rfl rfl ?_; refine TL.passG rfl rfl rfl rfl ?_; refine TL.run1 (pure_pick_true rfl rfl) rfl ?_; refine TL.cutEnd (by repeat (first | exact Same.refl _ _ | refine Same.put rfl ?_)) rfl ?_
                first | (simp; done) | (simp_all; done)
              · try dsimp only at hg90
                refine TL.runG rfl rfl (pure_move rfl) rfl ?_; refine TL.runG rfl rfl (pure_neq rfl rfl) rfl ?_; refine TL.run1 (pure_pick_false rfl rfl) rfl ?_; refine TL.run1 (pure_move rfl) rfl ?_
                first | refine TL.splitP 94 rfl (fun hg94 => ?_) (fun hg94 => ?_) | refine TL.split 94 rfl (fun hg94 => ?_) (fun hg94 => ?_)
                · try dsimp only at hg94
                  refine TL.passG rfl rfl rfl rfl ?_; refine TL.passG rfl rfl rfl rfl ?_; refine TL.passG rfl rfl rfl rfl ?_; refine TL.passG rfl rfl rfl rfl ?_; refine TL.run1 (pure_pick_true rfl rfl) rfl ?_; refine TL.cutEnd (by repeat (first | exact Same.refl _ _ | refine Same.put rfl ?_)) rfl ?_
                  first | (simp; done) | (simp_all; done)
                · try dsimp only at hg94
                  refine TL.runG rfl rfl (pure_move rfl) rfl ?_; refine TL.runG rfl rfl (pure_move rfl) rfl ?_; refine TL.runG rfl rfl (pure_call (EqualProps_spec (effP l (yAt (rmS l id) i).id) (effP l (yAt (rmS l id) i).id) hpe) (.cons rfl (.cons rfl .nil)) Try.call23) rfl ?_; refine TL.runG rfl rfl (pure_not rfl) rfl ?_; refine TL.run1 (pure_pick_false rfl rfl) rfl ?_; refine TL.cutEnd (by repeat (first | exact Same.refl _ _ | refine Same.put rfl ?_)) rfl ?_
                  first | (simp; done) | (simp_all; done)
            first | refine TC.condD rfl (fun hc99 => ?_) (fun hc99 => ?_) | refine TC.condN rfl (fun hc99 => ?_) (fun hc99 => ?_) | refine TC.cond rfl (fun hc99 => ?_) (fun hc99 => ?_)
            · try dsimp only at hc99
              all_goals exact absurd hc99 id
            · try dsimp only at hc99
              refine TC.skip ?_; refine block_normal ?_; refine then_normal ?_; refine TC.region ?_; refine TL.run1 (pure_move rfl) rfl ?_; refine TL.run1 (pure_add rfl rfl (mkI64 (by omega) (by omega))) rfl ?_; refine TL.run1 (pure_assign rfl) rfl ?_; refine TL.nil ?_
              refine loop_next (i + 1) ⟨by ((try dsimp only); rw [show (((i + 1 : Nat)) : Int) = (i : Int) + 1 by omega]; repeat (first | exact Agree.nil | refine Agree.cons rfl ?_)), by repeat (first | exact List.nil_sublist _ | exact List.Sublist.refl _ | apply List.Sublist.cons_cons | apply List.Sublist.cons)⟩ (show i + 1 ≤ _ by omega) (by omega)
          · try dsimp only at hc65
            refine TC.exit ?_; refine then_exit ?_; refine loop_exit ?_; refine block_here ?_; refine then_normal ?_; refine TC.seq ?_; refine TC.region ?_; refine TL.run1 (pure_assign rfl) rfl ?_; refine TL.nil' ?_; refine TC.ret ?_
            exact ret_bool rfl (by first | rfl | simp | simp_all)
end Go.Ob
