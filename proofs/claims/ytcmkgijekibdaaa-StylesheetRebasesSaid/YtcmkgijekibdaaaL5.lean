import Derived.Test.YtcmkgijekibdaaaS28
set_option linter.unusedVariables false
set_option linter.unusedSimpArgs false
namespace Go.Ob
open Go.Proofs

theorem rebV_okP (l : List Sty) (id base : Int) : (rebV l id base).length ≤ 1000000 ∧ ∀ i, i < (rebV l id base).length → (yAt (rebV l id base) i).props.length ≤ 1000000 := by
  by_cases h : rebE l id base = 0
  · have e : rebV l id base = rebS l id base := by unfold rebV; rw [if_pos h]
    have hg := (rebE_ok h).good2
    have hl := hg.len
    rw [e]; exact ⟨by omega, hg.plens⟩
  · rw [rebV_bad h]; exact ⟨by simp, fun i hi => by simp at hi⟩
set_option maxHeartbeats 2000000 in
set_option maxRecDepth 100000 in
theorem StylesheetRebases_spec (l : List Sty) (id base : Int) (hlal : l.length ≤ 9223372036854775807) : Fun Try.prog 12 [.sl 6 (encSs l), .agg [.v (.int .i64 id), .v (.int .i64 base)]] (.v (.bool true)) := by
  refine Fun.enter (n := 154) (rs := [.tmp 4]) Try.func12 rfl Try.ntmps12 Try.results12 rfl (fun w F => ?_); refine TC.seq ?_; refine TC.region ?_; refine TL.box rfl (.agg _) rfl (fun g3 => ?_); refine TL.run1 (pure_assign rfl) rfl ?_; refine TL.nil' ?_; refine TC.seq ?_; refine TC.regionCut [21, 22, 23, 24, 25, 26, 27] 27 (¬ SmallP l) ?_ ?_
  · skip
    refine TL.run1 (pure_call (known_spec) .nil Try.call13) rfl ?_; refine TL.run1 (pure_not rfl) rfl ?_; refine TL.run1 (pure_move rfl) rfl ?_; refine TL.split 23 rfl (fun hg23 => ?_) (fun hg23 => ?_)
    · try dsimp only at hg23
      (iterate 3 refine TL.passG rfl rfl rfl rfl ?_); refine TL.run1 (pure_pick_true rfl rfl) rfl ?_; refine TL.cutEnd (by repeat (first | exact Same.refl _ _ | refine Same.put rfl ?_)) rfl ?_
      first | (simp only [decide_eq_true_eq, Bool.false_eq_true, false_iff, true_iff, iff_true, iff_false, Bool.not_eq_true]; omega) | (simp_all; done) | (simp_all; omega) | grind
    · try dsimp only at hg23
      refine TL.runG rfl rfl (pure_move rfl) rfl ?_; refine TL.runG rfl rfl (pure_call (Small_spec l hlal) (.cons rfl .nil) Try.call14) rfl ?_; refine TL.runG rfl rfl (pure_not rfl) rfl ?_; refine TL.run1 (pure_pick_false rfl rfl) rfl ?_; refine TL.cutEnd (by repeat (first | exact Same.refl _ _ | refine Same.put rfl ?_)) rfl ?_
      first | (simp only [decide_eq_true_eq, Bool.false_eq_true, false_iff, true_iff, iff_true, iff_false, Bool.not_eq_true]; omega) | (simp_all; done) | (simp_all; omega) | grind
  refine TC.condD rfl (fun hc27 => ?_) (fun hc27 => ?_)
  · try dsimp only at hc27
    refine TC.seq ?_; refine TC.region ?_; refine TL.run1 (pure_call (known_spec) .nil Try.call13) rfl ?_; refine TL.run1 (pure_assign rfl) rfl ?_; refine TL.nil' ?_; refine TC.ret ?_; refine then_ret ?_
    exact ret_bool rfl (by first | rfl | simp | simp_all)
  · try dsimp only at hc27
    have hs : SmallP l := Classical.not_not.1 hc27
    obtain ⟨hl24, hsm⟩ := hs
    have hl : l.length ≤ 1000000 := by omega
    have hn : ∀ i, i < l.length → (yAt l i).name.size ≤ 1000000000 := fun i hi => by have := (hsm i hi).2; omega
    have hp : ∀ i, i < l.length → (yAt l i).props.length ≤ 1000000 := fun i hi => by have := (hsm i hi).1; omega
    have hnil : (encSs []).length = 0 := rfl
    have htl := tableK_len
    have hkt := encK_len tableK
    refine TC.skip' ?_; refine TC.seq ?_; refine TC.region ?_; refine TL.run1 (pure_move rfl) rfl ?_; refine TL.run1 (pure_fieldAddr_own Ty.f66_0 rfl) rfl ?_; refine TL.run1 (pure_load1_own Ty.one3 rfl (by repeat (first | exact List.Mem.head _ | apply List.Mem.tail)) (by repeat (first | exact DropR.zero _ | apply DropR.succ))) rfl ?_; refine TL.run1 (pure_fieldAddr_own Ty.f66_1 rfl) rfl ?_; refine TL.run1 (pure_load1_own Ty.one3 rfl (by repeat (first | exact List.Mem.head _ | apply List.Mem.tail)) (by repeat (first | exact DropR.zero _ | apply DropR.succ))) rfl ?_; refine TL.run1 (pure_call (SRebase_spec l id base hl hn hp) (.cons rfl (.cons rfl (.cons rfl .nil))) Try.call41) rfl ?_; refine TL.run1 (pure_move rfl) rfl ?_; (iterate 2 refine TL.run1 (pure_extract rfl rfl) rfl ?_); (iterate 2 refine TL.run1 (pure_assign rfl) rfl ?_); refine TL.nil' ?_; (iterate 2 refine TC.seq ?_); refine TC.region ?_; refine TL.run1 (pure_move rfl) rfl ?_; refine TL.run1 (pure_call (R8Check_spec l hl hn hp) (.cons rfl .nil) Try.call16) rfl ?_; refine TL.run1 (pure_assign rfl) rfl ?_; refine TL.nil' ?_; refine TC.seq ?_; refine TC.region ?_; refine TL.run1 (pure_move rfl) rfl ?_; refine TL.run1 (pure_neq rfl rfl) rfl ?_; refine TL.nil' ?_; refine TC.condD rfl (fun hc41 => ?_) (fun hc41 => ?_)
    · try dsimp only at hc41
      have hF : foundE l id = checkS l := by (unfold foundE; rw [if_pos hc41])
      have hE : rebE l id base = checkS l := by (unfold rebE; rw [hF, if_pos hc41])
      rw [rebV_bad (by rw [hE]; exact hc41), hE]
      refine TC.regionCut [42, 43, 44, 45, 46, 47, 48, 49, 4] 4 (True) ?_ ?_
      · skip
        refine TL.run1 (pure_move rfl) rfl ?_; refine TL.run1 (pure_len Ty.sl22 rfl) rfl ?_; refine TL.run1 (pure_eql rfl rfl) rfl ?_; refine TL.run1 (pure_move rfl) rfl ?_; refine TL.splitP 45 rfl (fun hg45 => ?_) (fun hg45 => ?_)
        · try dsimp only at hg45
          (iterate 2 refine TL.runG rfl rfl (pure_move rfl) rfl ?_); refine TL.runG rfl rfl (pure_eql rfl rfl) rfl ?_; refine TL.run1 (pure_pick_true rfl rfl) rfl ?_; refine TL.run1 (pure_assign rfl) rfl ?_; refine TL.cutEnd (by repeat (first | exact Same.refl _ _ | refine Same.put rfl ?_)) rfl ?_
          first | (simp only [decide_eq_true_eq, Bool.false_eq_true, false_iff, true_iff, iff_true, iff_false, Bool.not_eq_true]; omega) | (simp_all; done) | (simp_all; omega) | grind
        · try dsimp only at hg45
          (iterate 3 refine TL.passG rfl rfl rfl rfl ?_); refine TL.run1 (pure_pick_false rfl rfl) rfl ?_; refine TL.run1 (pure_assign rfl) rfl ?_; refine TL.cutEnd (by repeat (first | exact Same.refl _ _ | refine Same.put rfl ?_)) rfl ?_
          first | (simp only [decide_eq_true_eq, Bool.false_eq_true, false_iff, true_iff, iff_true, iff_false, Bool.not_eq_true]; omega) | (simp_all; done) | (simp_all; omega) | grind
      refine TC.ret ?_; refine then_ret ?_
      exact ret_bool rfl (by first | rfl | simp | simp_all)
    · try dsimp only at hc41
      have hg := checkS_good.1 (Classical.not_not.1 hc41)
      have hvg := rebV_okP l id base
      have hvl := hvg.1
      have hvp := hvg.2
      refine TC.skip' ?_; refine TC.seq ?_; refine TC.region ?_; refine TL.run1 (pure_move rfl) rfl ?_; refine TL.run1 (pure_fieldAddr_own Ty.f66_0 rfl) rfl ?_; refine TL.run1 (pure_load1_own Ty.one3 rfl (by repeat (first | exact List.Mem.head _ | apply List.Mem.tail)) (by repeat (first | exact DropR.zero _ | apply DropR.succ))) rfl ?_; refine TL.run1 (pure_fieldAddr_own Ty.f66_1 rfl) rfl ?_; refine TL.run1 (pure_load1_own Ty.one3 rfl (by repeat (first | exact List.Mem.head _ | apply List.Mem.tail)) (by repeat (first | exact DropR.zero _ | apply DropR.succ))) rfl ?_; refine TL.run1 (pure_call (RRebase_spec l id base hg) (.cons rfl (.cons rfl (.cons rfl .nil))) Try.call42) rfl ?_; refine TL.run1 (pure_move rfl) rfl ?_; (iterate 2 refine TL.run1 (pure_extract rfl rfl) rfl ?_); (iterate 2 refine TL.run1 (pure_assign rfl) rfl ?_); refine TL.nil' ?_; refine TC.seq ?_; refine TC.regionCut [59, 60, 61, 62, 63, 64, 65, 66, 67] 67 (False) ?_ ?_
      · skip
        (iterate 2 refine TL.run1 (pure_move rfl) rfl ?_); refine TL.run1 (pure_call (REqual_spec (rebV l id base) (rebV l id base) hvp hvl) (.cons rfl (.cons rfl .nil)) Try.call35) rfl ?_; refine TL.run1 (pure_not rfl) rfl ?_; refine TL.run1 (pure_move rfl) rfl ?_; refine TL.split 63 rfl (fun hg63 => ?_) (fun hg63 => ?_)
        · try dsimp only at hg63
          (iterate 3 refine TL.passG rfl rfl rfl rfl ?_); refine TL.run1 (pure_pick_true rfl rfl) rfl ?_; refine TL.cutEnd (by repeat (first | exact Same.refl _ _ | refine Same.put rfl ?_)) rfl ?_
          first | (simp; done) | (simp_all; done)
        · try dsimp only at hg63
          (iterate 2 refine TL.runG rfl rfl (pure_move rfl) rfl ?_); refine TL.runG rfl rfl (pure_neq rfl rfl) rfl ?_; refine TL.run1 (pure_pick_false rfl rfl) rfl ?_; refine TL.cutEnd (by repeat (first | exact Same.refl _ _ | refine Same.put rfl ?_)) rfl ?_
          first | (simp; done) | (simp_all; done)
      refine TC.condD rfl (fun hc67 => ?_) (fun hc67 => ?_)
      · try dsimp only at hc67
        all_goals exact absurd hc67 id
      · try dsimp only at hc67
        refine TC.skip' ?_; (iterate 2 refine TC.seq ?_); refine TC.region ?_; refine TL.run1 (pure_move rfl) rfl ?_; refine TL.run1 (pure_neq rfl rfl) rfl ?_; refine TL.nil' ?_; refine TC.condD rfl (fun hc69 => ?_) (fun hc69 => ?_)
        · try dsimp only at hc69
          refine TC.seq ?_; refine TC.region ?_; refine TL.run1 (pure_assign rfl) rfl ?_; refine TL.nil' ?_; refine TC.ret ?_; refine then_ret ?_
          exact ret_bool rfl (by first | rfl | simp | simp_all)
        · try dsimp only at hc69
          have hE : rebE l id base = 0 := Classical.not_not.1 hc69
          have hq := rebE_ok hE
          have hV : rebV l id base = (rebS l id base) := by (unfold rebV; rw [if_pos hE])
          rw [hV]
          have hmg := hq.good2
          have hml : (rebS l id base).length ≤ 1000000 := by (have := hmg.len; omega)
          have hmn := hmg.names
          have hmp := hmg.plens
          have hmc : checkS (rebS l id base) = 0 := checkS_good.2 hmg
          have hkm := encSs_len (rebS l id base)
          refine TC.skip' ?_; refine TC.seq ?_; refine TC.region ?_; refine TL.run1 (pure_call (Table_spec) .nil Try.call43) rfl ?_; refine TL.run1 (pure_assign rfl) rfl ?_; refine TL.nil' ?_; (iterate 2 refine TC.seq ?_); refine TC.region ?_; refine TL.run1 (pure_assign rfl) rfl ?_; refine TL.nil' ?_; refine TC.block ?_; refine TC.loopX (X := Nat) (fun i => [(0, .sl 6 (encSs l)), (5, .sl 6 (encSs (rebS l id base))), (10, .sl 6 (encK tableK)), (11, .v (.int .i64 i))]) (fun i => []) (fun i => (i ≤ (rebS l id base).length)) (fun i => (rebS l id base).length - i) (0) ⟨by skip; repeat (first | exact Agree.nil | refine Agree.cons rfl ?_), by skip; repeat (first | exact List.nil_sublist _ | exact List.Sublist.refl _ | apply List.Sublist.cons_cons | apply List.Sublist.cons)⟩ ?_ ?_
          · skip
            exact Nat.zero_le _
          intro i
          intro h1
          show TC _ _ _ (Env.of [(0, .sl 6 (encSs l)), (5, .sl 6 (encSs (rebS l id base))), (10, .sl 6 (encK tableK)), (11, .v (.int .i64 i))]) []
          (iterate 2 refine TC.seq ?_); refine TC.region ?_; (iterate 2 refine TL.run1 (pure_move rfl) rfl ?_); refine TL.run1 (pure_len Ty.sl22 rfl) rfl ?_; refine TL.run1 (pure_lss rfl rfl) rfl ?_; refine TL.nil' ?_; refine TC.condD rfl (fun hc74 => ?_) (fun hc74 => ?_)
          · try dsimp only at hc74
            refine TC.skip' ?_; refine TC.seq ?_; refine TC.block ?_; refine TC.seq ?_
            have hil : i < (rebS l id base).length := by omega
            have hrow := encSs_get (rebS l id base) i hil
            obtain ⟨s, hs, hse⟩ := hq.mem.1 (yAt_mem hil)
            have hsi : s.id = (yAt (rebS l id base) i).id := by (rw [← hse]; exact (hq.same hs).1.symm)
            have hf1 : 0 ≤ findS l (yAt (rebS l id base) i).id := by (rw [← hsi]; exact (hg.inc.mem hs).1)
            have hf2 := (hmg.inc.mem (yAt_mem hil)).1
            have he1 := foundE_is hg hf1
            have he2 := foundE_is hmg hf2
            have hv1 := effV_ok hg hf1
            have hv2 := effV_ok hmg hf2
            have hp1 := (hg.effP (.inr hf1)).len
            have hp2 := (hmg.effP (.inr hf2)).len
            have hrel : ∀ x, RelO (lookP (effP l (yAt (rebS l id base) i).id) x) (lookP (effP (rebS l id base) (yAt (rebS l id base) i).id) x) (findK x).std := fun x => by (rw [← hsi]; exact hq.eff hs x)
            refine TC.region ?_; (iterate 3 refine TL.run1 (pure_move rfl) rfl ?_); refine TL.run1 (pure_indexAddr Ty.sl22 rfl rfl (by omega) hrow (List.cons_ne_nil _ _)) rfl ?_; refine TL.run1 (pure_fieldAddr Ty.f28_0 rfl (.zero _) (List.cons_ne_nil _ _)) rfl ?_; refine TL.run1 (pure_load1 Ty.one3 rfl) rfl ?_; refine TL.run1 (pure_call (SEffective_spec l (yAt (rebS l id base) i).id hl hn hp) (.cons rfl (.cons rfl .nil)) Try.call32) rfl ?_; refine TL.run1 (pure_move rfl) rfl ?_; (iterate 2 refine TL.run1 (pure_extract rfl rfl) rfl ?_); (iterate 2 refine TL.run1 (pure_assign rfl) rfl ?_); refine TL.nil' ?_; refine TC.seq ?_; refine TC.region ?_; (iterate 3 refine TL.run1 (pure_move rfl) rfl ?_); refine TL.run1 (pure_indexAddr Ty.sl22 rfl rfl (by omega) hrow (List.cons_ne_nil _ _)) rfl ?_; refine TL.run1 (pure_fieldAddr Ty.f28_0 rfl (.zero _) (List.cons_ne_nil _ _)) rfl ?_; refine TL.run1 (pure_load1 Ty.one3 rfl) rfl ?_; refine TL.run1 (pure_call (SEffective_spec (rebS l id base) (yAt (rebS l id base) i).id hml hmn hmp) (.cons rfl (.cons rfl .nil)) Try.call32) rfl ?_; refine TL.run1 (pure_move rfl) rfl ?_; (iterate 2 refine TL.run1 (pure_extract rfl rfl) rfl ?_); (iterate 2 refine TL.run1 (pure_assign rfl) rfl ?_); refine TL.nil' ?_; refine TC.seq ?_
            rw [hv1, hv2, he1, he2]
            refine TC.regionCut [97, 98, 99, 100, 101, 102] 102 (False) ?_ ?_
            · skip
              refine TL.run1 (pure_move rfl) rfl ?_; refine TL.run1 (pure_neq rfl rfl) rfl ?_; refine TL.run1 (pure_move rfl) rfl ?_; refine TL.splitP 99 rfl (fun hg99 => ?_) (fun hg99 => ?_)
              · try dsimp only at hg99
                (iterate 2 refine TL.passG rfl rfl rfl rfl ?_); refine TL.run1 (pure_pick_true rfl rfl) rfl ?_; refine TL.cutEnd (by repeat (first | exact Same.refl _ _ | refine Same.put rfl ?_)) rfl ?_
                first | (simp; done) | (simp_all; done)
              · try dsimp only at hg99
                refine TL.runG rfl rfl (pure_move rfl) rfl ?_; refine TL.runG rfl rfl (pure_neq rfl rfl) rfl ?_; refine TL.run1 (pure_pick_false rfl rfl) rfl ?_; refine TL.cutEnd (by repeat (first | exact Same.refl _ _ | refine Same.put rfl ?_)) rfl ?_
                first | (simp; done) | (simp_all; done)
            refine TC.condD rfl (fun hc102 => ?_) (fun hc102 => ?_)
            · try dsimp only at hc102
              all_goals exact absurd hc102 id
            · try dsimp only at hc102
              refine TC.skip' ?_; refine TC.seq ?_; refine TC.region ?_; refine TL.run1 (pure_assign rfl) rfl ?_; refine TL.nil' ?_; refine TC.block ?_; refine TC.loopX (X := Nat) (fun k => [(0, .sl 6 (encSs l)), (5, .sl 6 (encSs (rebS l id base))), (10, .sl 6 (encK tableK)), (11, .v (.int .i64 i)), (12, .sl 2 (encP (effP l (yAt (rebS l id base) i).id))), (14, .sl 2 (encP (effP (rebS l id base) (yAt (rebS l id base) i).id))), (16, .v (.int .i64 k))]) (fun k => []) (fun k => (k ≤ tableK.length)) (fun k => tableK.length - k) (0) ⟨by skip; repeat (first | exact Agree.nil | refine Agree.cons rfl ?_), by skip; repeat (first | exact List.nil_sublist _ | exact List.Sublist.refl _ | apply List.Sublist.cons_cons | apply List.Sublist.cons)⟩ ?_ ?_
              · skip
                exact Nat.zero_le _
              intro k
              intro h2
              show TC _ _ _ (Env.of [(0, .sl 6 (encSs l)), (5, .sl 6 (encSs (rebS l id base))), (10, .sl 6 (encK tableK)), (11, .v (.int .i64 i)), (12, .sl 2 (encP (effP l (yAt (rebS l id base) i).id))), (14, .sl 2 (encP (effP (rebS l id base) (yAt (rebS l id base) i).id))), (16, .v (.int .i64 k))]) []
              (iterate 2 refine TC.seq ?_); refine TC.region ?_; (iterate 2 refine TL.run1 (pure_move rfl) rfl ?_); refine TL.run1 (pure_len Ty.sl68 rfl) rfl ?_; refine TL.run1 (pure_lss rfl rfl) rfl ?_; refine TL.nil' ?_; refine TC.condD rfl (fun hc106 => ?_) (fun hc106 => ?_)
              · try dsimp only at hc106
                refine TC.skip' ?_; refine TC.seq ?_; refine TC.block ?_; refine TC.seq ?_
                have hkl : k < tableK.length := by omega
                have hrowk := encK_getN k hkl
                have hr := hrel (tK k)
                have hg1 := getP_look (effP l (yAt (rebS l id base) i).id) (tK k) 0
                have hg2 := getP_look (effP (rebS l id base) (yAt (rebS l id base) i).id) (tK k) 0
                have hh1 := hasP_look (effP l (yAt (rebS l id base) i).id) (tK k)
                have hh2 := hasP_look (effP (rebS l id base) (yAt (rebS l id base) i).id) (tK k)
                have hstd := tK_std hkl
                refine TC.region ?_; (iterate 3 refine TL.run1 (pure_move rfl) rfl ?_); refine TL.run1 (pure_indexAddr Ty.sl68 rfl rfl (by omega) hrowk (List.cons_ne_nil _ _)) rfl ?_; refine TL.run1 (pure_fieldAddr Ty.f40_0 rfl (.zero _) (List.cons_ne_nil _ _)) rfl ?_; refine TL.run1 (pure_load1 Ty.one3 rfl) rfl ?_; refine TL.run1 (pure_call (R8Get_spec (effP l (yAt (rebS l id base) i).id) (tK k) (by omega)) (.cons rfl (.cons rfl .nil)) Try.call20) rfl ?_; refine TL.run1 (pure_move rfl) rfl ?_; (iterate 2 refine TL.run1 (pure_extract rfl rfl) rfl ?_); (iterate 2 refine TL.run1 (pure_assign rfl) rfl ?_); refine TL.nil' ?_; refine TC.seq ?_; refine TC.region ?_; (iterate 3 refine TL.run1 (pure_move rfl) rfl ?_); refine TL.run1 (pure_indexAddr Ty.sl68 rfl rfl (by omega) hrowk (List.cons_ne_nil _ _)) rfl ?_; refine TL.run1 (pure_fieldAddr Ty.f40_0 rfl (.zero _) (List.cons_ne_nil _ _)) rfl ?_; refine TL.run1 (pure_load1 Ty.one3 rfl) rfl ?_; refine TL.run1 (pure_call (R8Get_spec (effP (rebS l id base) (yAt (rebS l id base) i).id) (tK k) (by omega)) (.cons rfl (.cons rfl .nil)) Try.call20) rfl ?_; refine TL.run1 (pure_move rfl) rfl ?_; (iterate 2 refine TL.run1 (pure_extract rfl rfl) rfl ?_); (iterate 2 refine TL.run1 (pure_assign rfl) rfl ?_); refine TL.nil' ?_; refine TC.seq ?_; refine TC.regionCut [129, 130, 131, 132, 133] 133 (False) ?_ ?_
                · skip
                  (iterate 2 refine TL.run1 (pure_move rfl) rfl ?_); refine TL.split 130 rfl (fun hg130 => ?_) (fun hg130 => ?_)
                  · try dsimp only at hg130
                    refine TL.runG rfl rfl (pure_move rfl) rfl ?_; refine TL.runG rfl rfl (pure_not rfl) rfl ?_; refine TL.run1 (pure_pick_true rfl rfl) rfl ?_; refine TL.cutEnd (by repeat (first | exact Same.refl _ _ | refine Same.put rfl ?_)) rfl ?_
                    first | (cases hl1 : lookP (effP l (yAt (rebS l id base) i).id) (tK k) <;> cases hl2 : lookP (effP (rebS l id base) (yAt (rebS l id base) i).id) (tK k) <;> simp_all [RelO]; done) | grind
                  · try dsimp only at hg130
                    (iterate 2 refine TL.passG rfl rfl rfl rfl ?_); refine TL.run1 (pure_pick_false rfl rfl) rfl ?_; refine TL.cutEnd (by repeat (first | exact Same.refl _ _ | refine Same.put rfl ?_)) rfl ?_
                    first | (cases hl1 : lookP (effP l (yAt (rebS l id base) i).id) (tK k) <;> cases hl2 : lookP (effP (rebS l id base) (yAt (rebS l id base) i).id) (tK k) <;> simp_all [RelO]; done) | grind
                refine TC.condD rfl (fun hc133 => ?_) (fun hc133 => ?_)
                · try dsimp only at hc133
                  all_goals exact absurd hc133 id
                · try dsimp only at hc133
                  refine TC.skip' ?_; (iterate 2 refine TC.seq ?_); refine TC.region ?_; refine TL.run1 (pure_move rfl) rfl ?_; refine TL.run1 (pure_not rfl) rfl ?_; refine TL.nil' ?_; refine TC.cond rfl (fun hc135 => ?_) (fun hc135 => ?_)
                  · try dsimp only at hc135
                    refine TC.region ?_; (iterate 2 refine TL.run1 (pure_move rfl) rfl ?_); refine TL.run1 (pure_indexAddr Ty.sl68 rfl rfl (by omega) hrowk (List.cons_ne_nil _ _)) rfl ?_; refine TL.run1 (pure_fieldAddr Ty.f40_4 rfl (.succ (.succ (.succ (.succ (.zero _))))) (List.cons_ne_nil _ _)) rfl ?_; refine TL.run1 (pure_load1 Ty.one3 rfl) rfl ?_; refine TL.run1 (pure_assign rfl) rfl ?_; refine TL.nil' ?_; (iterate 2 refine TC.seq ?_); refine TC.region ?_; refine TL.run1 (pure_move rfl) rfl ?_; refine TL.run1 (pure_not rfl) rfl ?_; refine TL.nil' ?_; refine TC.cond rfl (fun hc142 => ?_) (fun hc142 => ?_)
                    · try dsimp only at hc142
                      refine TC.region ?_; (iterate 2 refine TL.run1 (pure_move rfl) rfl ?_); refine TL.run1 (pure_indexAddr Ty.sl68 rfl rfl (by omega) hrowk (List.cons_ne_nil _ _)) rfl ?_; refine TL.run1 (pure_fieldAddr Ty.f40_4 rfl (.succ (.succ (.succ (.succ (.zero _))))) (List.cons_ne_nil _ _)) rfl ?_; refine TL.run1 (pure_load1 Ty.one3 rfl) rfl ?_; refine TL.run1 (pure_assign rfl) rfl ?_; refine TL.nil' ?_; refine TC.seq ?_; refine TC.region ?_; (iterate 2 refine TL.run1 (pure_move rfl) rfl ?_); refine TL.run1 (pure_neq rfl rfl) rfl ?_; refine TL.nil' ?_; refine TC.condD rfl (fun hc150 => ?_) (fun hc150 => ?_)
                      · try dsimp only at hc150
                        exfalso
                        cases hl1 : lookP (effP l (yAt (rebS l id base) i).id) (tK k) <;> cases hl2 : lookP (effP (rebS l id base) (yAt (rebS l id base) i).id) (tK k) <;> simp_all [RelO]
                      · try dsimp only at hc150
                        refine TC.skip ?_; refine block_normal ?_; refine then_normal ?_; refine TC.region ?_; refine TL.run1 (pure_move rfl) rfl ?_; refine TL.run1 (pure_add rfl rfl (mkI64 (by omega) (by omega))) rfl ?_; refine TL.run1 (pure_assign rfl) rfl ?_; refine TL.nil ?_; refine loop_next (k + 1) ⟨by ((try dsimp only); rw [show (((k + 1 : Nat)) : Int) = (k : Int) + 1 by omega]; repeat (first | exact Agree.nil | refine Agree.cons rfl ?_)), by repeat (first | exact List.nil_sublist _ | exact List.Sublist.refl _ | apply List.Sublist.cons_cons | apply List.Sublist.cons)⟩ (show k + 1 ≤ _ by omega) (by omega)
                    · try dsimp only at hc142
                      refine TC.skip' ?_; refine TC.seq ?_; refine TC.region ?_; (iterate 2 refine TL.run1 (pure_move rfl) rfl ?_); refine TL.run1 (pure_neq rfl rfl) rfl ?_; refine TL.nil' ?_; refine TC.condD rfl (fun hc150 => ?_) (fun hc150 => ?_)
                      · try dsimp only at hc150
                        exfalso
                        cases hl1 : lookP (effP l (yAt (rebS l id base) i).id) (tK k) <;> cases hl2 : lookP (effP (rebS l id base) (yAt (rebS l id base) i).id) (tK k) <;> simp_all [RelO]
                      · try dsimp only at hc150
                        refine TC.skip ?_; refine block_normal ?_; refine then_normal ?_; refine TC.region ?_; refine TL.run1 (pure_move rfl) rfl ?_; refine TL.run1 (pure_add rfl rfl (mkI64 (by omega) (by omega))) rfl ?_; refine TL.run1 (pure_assign rfl) rfl ?_; refine TL.nil ?_; refine loop_next (k + 1) ⟨by ((try dsimp only); rw [show (((k + 1 : Nat)) : Int) = (k : Int) + 1 by omega]; repeat (first | exact Agree.nil | refine Agree.cons rfl ?_)), by repeat (first | exact List.nil_sublist _ | exact List.Sublist.refl _ | apply List.Sublist.cons_cons | apply List.Sublist.cons)⟩ (show k + 1 ≤ _ by omega) (by omega)
                  · try dsimp only at hc135
                    refine TC.skip' ?_; (iterate 2 refine TC.seq ?_); refine TC.region ?_; refine TL.run1 (pure_move rfl) rfl ?_; refine TL.run1 (pure_not rfl) rfl ?_; refine TL.nil' ?_; refine TC.cond rfl (fun hc142 => ?_) (fun hc142 => ?_)
                    · try dsimp only at hc142
                      refine TC.region ?_; (iterate 2 refine TL.run1 (pure_move rfl) rfl ?_); refine TL.run1 (pure_indexAddr Ty.sl68 rfl rfl (by omega) hrowk (List.cons_ne_nil _ _)) rfl ?_; refine TL.run1 (pure_fieldAddr Ty.f40_4 rfl (.succ (.succ (.succ (.succ (.zero _))))) (List.cons_ne_nil _ _)) rfl ?_; refine TL.run1 (pure_load1 Ty.one3 rfl) rfl ?_; refine TL.run1 (pure_assign rfl) rfl ?_; refine TL.nil' ?_; refine TC.seq ?_; refine TC.region ?_; (iterate 2 refine TL.run1 (pure_move rfl) rfl ?_); refine TL.run1 (pure_neq rfl rfl) rfl ?_; refine TL.nil' ?_; refine TC.condD rfl (fun hc150 => ?_) (fun hc150 => ?_)
                      · try dsimp only at hc150
                        exfalso
                        cases hl1 : lookP (effP l (yAt (rebS l id base) i).id) (tK k) <;> cases hl2 : lookP (effP (rebS l id base) (yAt (rebS l id base) i).id) (tK k) <;> simp_all [RelO]
                      · try dsimp only at hc150
                        refine TC.skip ?_; refine block_normal ?_; refine then_normal ?_; refine TC.region ?_; refine TL.run1 (pure_move rfl) rfl ?_; refine TL.run1 (pure_add rfl rfl (mkI64 (by omega) (by omega))) rfl ?_; refine TL.run1 (pure_assign rfl) rfl ?_; refine TL.nil ?_; refine loop_next (k + 1) ⟨by ((try dsimp only); rw [show (((k + 1 : Nat)) : Int) = (k : Int) + 1 by omega]; repeat (first | exact Agree.nil | refine Agree.cons rfl ?_)), by repeat (first | exact List.nil_sublist _ | exact List.Sublist.refl _ | apply List.Sublist.cons_cons | apply List.Sublist.cons)⟩ (show k + 1 ≤ _ by omega) (by omega)
                    · try dsimp only at hc142
                      refine TC.skip' ?_; refine TC.seq ?_; refine TC.region ?_; (iterate 2 refine TL.run1 (pure_move rfl) rfl ?_); refine TL.run1 (pure_neq rfl rfl) rfl ?_; refine TL.nil' ?_; refine TC.condD rfl (fun hc150 => ?_) (fun hc150 => ?_)
                      · try dsimp only at hc150
                        exfalso
                        cases hl1 : lookP (effP l (yAt (rebS l id base) i).id) (tK k) <;> cases hl2 : lookP (effP (rebS l id base) (yAt (rebS l id base) i).id) (tK k) <;> simp_all [RelO]
                      · try dsimp only at hc150
                        refine TC.skip ?_; refine block_normal ?_; refine then_normal ?_; refine TC.region ?_; refine TL.run1 (pure_move rfl) rfl ?_; refine TL.run1 (pure_add rfl rfl (mkI64 (by omega) (by omega))) rfl ?_; refine TL.run1 (pure_assign rfl) rfl ?_; refine TL.nil ?_; refine loop_next (k + 1) ⟨by ((try dsimp only); rw [show (((k + 1 : Nat)) : Int) = (k : Int) + 1 by omega]; repeat (first | exact Agree.nil | refine Agree.cons rfl ?_)), by repeat (first | exact List.nil_sublist _ | exact List.Sublist.refl _ | apply List.Sublist.cons_cons | apply List.Sublist.cons)⟩ (show k + 1 ≤ _ by omega) (by omega)
              · try dsimp only at hc106
                refine TC.exit ?_; refine then_exit ?_; refine loop_exit ?_; refine block_here ?_; refine block_normal ?_; refine then_normal ?_; refine TC.region ?_; refine TL.run1 (pure_move rfl) rfl ?_; refine TL.run1 (pure_add rfl rfl (mkI64 (by omega) (by omega))) rfl ?_; refine TL.run1 (pure_assign rfl) rfl ?_; refine TL.nil ?_; refine loop_next (i + 1) ⟨by ((try dsimp only); rw [show (((i + 1 : Nat)) : Int) = (i : Int) + 1 by omega]; repeat (first | exact Agree.nil | refine Agree.cons rfl ?_)), by repeat (first | exact List.nil_sublist _ | exact List.Sublist.refl _ | apply List.Sublist.cons_cons | apply List.Sublist.cons)⟩ (show i + 1 ≤ _ by omega) (by omega)
          · try dsimp only at hc74
            refine TC.exit ?_; refine then_exit ?_; refine loop_exit ?_; refine block_here ?_; refine then_normal ?_; refine TC.seq ?_; refine TC.region ?_; refine TL.run1 (pure_move rfl) rfl ?_; refine TL.run1 (pure_call (SCheck_spec (rebS l id base) hml hmn hmp) (.cons rfl .nil) Try.call15) rfl ?_; refine TL.run1 (pure_eql rfl rfl) rfl ?_; refine TL.run1 (pure_assign rfl) rfl ?_; refine TL.nil' ?_; refine TC.ret ?_
            exact ret_bool rfl (decide_eq_true hmc)
end Go.Ob
