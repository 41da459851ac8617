import Derived.Test.YtcmkgijekibdaaaL1
set_option linter.unusedVariables false
set_option linter.unusedSimpArgs false
namespace Go.Ob
open Go.Proofs

theorem folE_bad {l : List Sty} {id : Int} (h : foundE l id ≠ 0) : folE l id = foundE l id ∧ folV l id = 0 := by
  have hE : folE l id = foundE l id := by unfold folE; rw [if_pos h]
  exact ⟨hE, by unfold folV; rw [hE, if_pos h]⟩
theorem folE_char {l : List Sty} {id : Int} (h : foundE l id = 0) (hk : (yF l id).kind = 2) : folE l id = 3 ∧ folV l id = 0 := by
  have hE : folE l id = 3 := by unfold folE; rw [if_neg (fun e => e h), if_pos hk]
  exact ⟨hE, by unfold folV; rw [hE, if_pos (by decide)]⟩
theorem folE_para {l : List Sty} {id : Int} (h : foundE l id = 0) (hk : ¬ (yF l id).kind = 2) : folE l id = 0 ∧ folV l id = if (yF l id).next = 0 then id else (yF l id).next := by
  have hE : folE l id = 0 := by unfold folE; rw [if_neg (fun e => e h), if_neg hk]
  exact ⟨hE, by unfold folV; rw [hE, if_neg (fun h => h rfl)]⟩
theorem chainV_bad {l : List Sty} {id : Int} (h : foundE l id ≠ 0) : chainV l id = [] := by unfold chainV; rw [if_neg h]
def nmL (i : Nat) : ByteArray := strOfNums [IntKind.u8.wrap (65 + (i : Int) / 26), IntKind.u8.wrap (97 + (i : Int) % 26)]
def longTo (n : Nat) : List Sty := (List.range n).map fun (i : Nat) => ⟨(i : Int) + 1, 1 + (i : Int) % 2, nmL i, 0, 0, []⟩
theorem encSs_each (l : List Sty) : ∀ x ∈ encSs l, x.length = 6 := by
  intro x hx
  obtain ⟨s, _, rfl⟩ := List.mem_map.1 hx
  rfl
theorem longTo_len (n : Nat) : (longTo n).length = n := by simp [longTo]
theorem longTo_succ (n : Nat) : encSs (longTo (n + 1)) = encSs (longTo n) ++ [[.v (.int .i64 ((n : Int) + 1)), .v (.int .i64 (1 + (n : Int) % 2)), .v (.string (nmL n)), .v (.int .i64 0), .v (.int .i64 0), .sl 2 []]] := by
  simp [longTo, encSs, List.range_succ, encSt, encP]
theorem longTo_at (n i : Nat) (h : i < n) : yAt (longTo n) i = ⟨(i : Int) + 1, 1 + (i : Int) % 2, nmL i, 0, 0, []⟩ := by simp [yAt, longTo, h]
set_option maxHeartbeats 1000000 in
set_option maxRecDepth 100000 in
theorem StylesheetChains_spec (l : List Sty) (id : Int) (hlal : l.length ≤ 9223372036854775807) : Fun Try.prog 10 [.sl 6 (encSs l), .v (.int .i64 id)] (.v (.bool true)) := by
  refine Fun.enter (n := 118) (rs := [.tmp 4]) Try.func10 rfl Try.ntmps10 Try.results10 rfl (fun w F => ?_)
  refine TC.seq ?_; refine TC.region ?_; refine TL.run1 (pure_assign rfl) rfl ?_; refine TL.nil' ?_; refine TC.seq ?_; refine TC.regionCut [14, 15, 16, 17, 18, 19, 20] 20 (¬ SmallP l) ?_ ?_
  · skip
    refine TL.run1 (pure_call (known_spec) .nil Try.call13) rfl ?_; refine TL.run1 (pure_not rfl) rfl ?_; refine TL.run1 (pure_move rfl) rfl ?_
    first | refine TL.splitP 16 rfl (fun hg16 => ?_) (fun hg16 => ?_) | refine TL.split 16 rfl (fun hg16 => ?_) (fun hg16 => ?_)
    · try dsimp only at hg16
      refine TL.passG rfl rfl rfl rfl ?_; refine TL.passG rfl rfl rfl rfl ?_; refine TL.passG rfl rfl rfl rfl ?_; refine TL.run1 (pure_pick_true rfl rfl) rfl ?_; refine TL.cutEnd (by repeat (first | exact Same.refl _ _ | refine Same.put rfl ?_)) rfl ?_
      first | (simp only [decide_eq_true_eq, Bool.false_eq_true, false_iff, true_iff, iff_true, iff_false, Bool.not_eq_true]; omega) | (simp_all; done) | (simp_all; omega) | grind
    · try dsimp only at hg16
      refine TL.runG rfl rfl (pure_move rfl) rfl ?_; refine TL.runG rfl rfl (pure_call (Small_spec l hlal) (.cons rfl .nil) Try.call14) rfl ?_; refine TL.runG rfl rfl (pure_not rfl) rfl ?_; refine TL.run1 (pure_pick_false rfl rfl) rfl ?_; refine TL.cutEnd (by repeat (first | exact Same.refl _ _ | refine Same.put rfl ?_)) rfl ?_
      first | (simp only [decide_eq_true_eq, Bool.false_eq_true, false_iff, true_iff, iff_true, iff_false, Bool.not_eq_true]; omega) | (simp_all; done) | (simp_all; omega) | grind
  first | refine TC.condD rfl (fun hc20 => ?_) (fun hc20 => ?_) | refine TC.condN rfl (fun hc20 => ?_) (fun hc20 => ?_) | refine TC.cond rfl (fun hc20 => ?_) (fun hc20 => ?_)
  · try dsimp only at hc20
    refine TC.seq ?_; refine TC.region ?_; refine TL.run1 (pure_call (known_spec) .nil Try.call13) rfl ?_; refine TL.run1 (pure_assign rfl) rfl ?_; refine TL.nil' ?_; refine TC.ret ?_; refine then_ret ?_
    exact ret_bool rfl (by first | rfl | simp | simp_all)
  · try dsimp only at hc20
    have hs : SmallP l := Classical.not_not.1 hc20
    obtain ⟨hl24, hsm⟩ := hs
    have hl : l.length ≤ 1000000 := by omega
    have hn : ∀ i, i < l.length → (yAt l i).name.size ≤ 1000000000 := fun i hi => by have := (hsm i hi).2; omega
    have hp : ∀ i, i < l.length → (yAt l i).props.length ≤ 1000000 := fun i hi => by have := (hsm i hi).1; omega
    have hfr := findS_range l id
    have hk := encSs_len l
    have hnil : (encI []).length = 0 := rfl
    refine TC.skip' ?_; refine TC.seq ?_; refine TC.region ?_; refine TL.run1 (pure_move rfl) rfl ?_; refine TL.run1 (pure_move rfl) rfl ?_; refine TL.run1 (pure_call (SChain_spec l id hl hn hp) (.cons rfl (.cons rfl .nil)) Try.call36) rfl ?_; refine TL.run1 (pure_move rfl) rfl ?_; refine TL.run1 (pure_extract rfl rfl) rfl ?_; refine TL.run1 (pure_extract rfl rfl) rfl ?_; refine TL.run1 (pure_assign rfl) rfl ?_; refine TL.run1 (pure_assign rfl) rfl ?_; refine TL.nil' ?_; refine TC.seq ?_; refine TC.region ?_; refine TL.run1 (pure_move rfl) rfl ?_; refine TL.run1 (pure_move rfl) rfl ?_; refine TL.run1 (pure_call (SFollow_spec l id hl hn hp) (.cons rfl (.cons rfl .nil)) Try.call37) rfl ?_; refine TL.run1 (pure_move rfl) rfl ?_; refine TL.run1 (pure_extract rfl rfl) rfl ?_; refine TL.run1 (pure_extract rfl rfl) rfl ?_; refine TL.run1 (pure_assign rfl) rfl ?_; refine TL.run1 (pure_assign rfl) rfl ?_; refine TL.nil' ?_; refine TC.seq ?_; refine TC.region ?_; refine TL.run1 (pure_move rfl) rfl ?_; refine TL.run1 (pure_call (R8Check_spec l hl hn hp) (.cons rfl .nil) Try.call16) rfl ?_; refine TL.run1 (pure_assign rfl) rfl ?_; refine TL.nil' ?_; refine TC.seq ?_; refine TC.region ?_; refine TL.run1 (pure_move rfl) rfl ?_; refine TL.run1 (pure_move rfl) rfl ?_; refine TL.run1 (pure_call (RFind_spec l id hl) (.cons rfl (.cons rfl .nil)) Try.call26) rfl ?_; refine TL.run1 (pure_assign rfl) rfl ?_; refine TL.nil' ?_; refine TC.seq ?_; refine TC.regionCut [39, 40, 41, 42, 43, 44] 44 (checkS l = 0 ∧ ¬ 0 ≤ findS l id) ?_ ?_
    · skip
      refine TL.run1 (pure_move rfl) rfl ?_; refine TL.run1 (pure_eql rfl rfl) rfl ?_; refine TL.run1 (pure_move rfl) rfl ?_
      first | refine TL.splitP 41 rfl (fun hg41 => ?_) (fun hg41 => ?_) | refine TL.split 41 rfl (fun hg41 => ?_) (fun hg41 => ?_)
      · try dsimp only at hg41
        refine TL.runG rfl rfl (pure_move rfl) rfl ?_; refine TL.runG rfl rfl (pure_lss rfl rfl) rfl ?_; refine TL.run1 (pure_pick_true rfl rfl) rfl ?_; refine TL.cutEnd (by repeat (first | exact Same.refl _ _ | refine Same.put rfl ?_)) rfl ?_
        first | (simp only [decide_eq_true_eq, Bool.false_eq_true, false_iff, true_iff, iff_true, iff_false, Bool.not_eq_true]; omega) | (simp_all; done) | (simp_all; omega) | grind
      · try dsimp only at hg41
        refine TL.passG rfl rfl rfl rfl ?_; refine TL.passG rfl rfl rfl rfl ?_; refine TL.run1 (pure_pick_false rfl rfl) rfl ?_; refine TL.cutEnd (by repeat (first | exact Same.refl _ _ | refine Same.put rfl ?_)) rfl ?_
        first | (simp only [decide_eq_true_eq, Bool.false_eq_true, false_iff, true_iff, iff_true, iff_false, Bool.not_eq_true]; omega) | (simp_all; done) | (simp_all; omega) | grind
    first | refine TC.condD rfl (fun hc44 => ?_) (fun hc44 => ?_) | refine TC.condN rfl (fun hc44 => ?_) (fun hc44 => ?_) | refine TC.cond rfl (fun hc44 => ?_) (fun hc44 => ?_)
    · try dsimp only at hc44
      have hE : foundE l id = 8 := by (unfold foundE; rw [if_neg (by simp [hc44.1]), if_neg hc44.2])
      have hb : foundE l id ≠ 0 := by (rw [hE]; decide)
      rw [chainV_bad hb, (folE_bad hb).1, (folE_bad hb).2, hE]
      refine TC.region ?_; refine TL.run1 (pure_assign rfl) rfl ?_; refine TL.nil' ?_; refine TC.seq ?_; refine TC.seq ?_; refine TC.region ?_; refine TL.run1 (pure_move rfl) rfl ?_; refine TL.run1 (pure_neq rfl rfl) rfl ?_; refine TL.nil' ?_
      first | refine TC.condD rfl (fun hc46 => ?_) (fun hc46 => ?_) | refine TC.condN rfl (fun hc46 => ?_) (fun hc46 => ?_) | refine TC.cond rfl (fun hc46 => ?_) (fun hc46 => ?_)
      · try dsimp only at hc46
        refine TC.regionCut [47, 48, 49, 50, 51, 52, 53, 54, 55, 56, 57, 58, 59, 60, 61, 62, 63, 4] 4 (True) ?_ ?_
        · skip
          refine TL.run1 (pure_move rfl) rfl ?_
          first | refine TL.run1 (pure_len Ty.sl50 rfl) rfl ?_ | refine TL.run1 (pure_len_row Ty.sl50 rfl (by repeat (first | exact List.Mem.head _ | apply List.Mem.tail))) rfl ?_ | refine TL.run1 (pure_len_nil Ty.sl50 rfl) rfl ?_
          refine TL.run1 (pure_eql rfl rfl) rfl ?_; refine TL.run1 (pure_move rfl) rfl ?_
          first | refine TL.splitP 50 rfl (fun hg50 => ?_) (fun hg50 => ?_) | refine TL.split 50 rfl (fun hg50 => ?_) (fun hg50 => ?_)
          · try dsimp only at hg50
            refine TL.runG rfl rfl (pure_move rfl) rfl ?_; refine TL.runG rfl rfl (pure_move rfl) rfl ?_; refine TL.runG rfl rfl (pure_eql rfl rfl) rfl ?_; refine TL.run1 (pure_pick_true rfl rfl) rfl ?_; refine TL.run1 (pure_move rfl) rfl ?_
            first | refine TL.splitP 55 rfl (fun hg55 => ?_) (fun hg55 => ?_) | refine TL.split 55 rfl (fun hg55 => ?_) (fun hg55 => ?_)
            · try dsimp only at hg55
              refine TL.runG rfl rfl (pure_move rfl) rfl ?_; refine TL.runG rfl rfl (pure_eql rfl rfl) rfl ?_; refine TL.run1 (pure_pick_true rfl rfl) rfl ?_; refine TL.run1 (pure_move rfl) rfl ?_
              first | refine TL.splitP 59 rfl (fun hg59 => ?_) (fun hg59 => ?_) | refine TL.split 59 rfl (fun hg59 => ?_) (fun hg59 => ?_)
              · try dsimp only at hg59
                refine TL.runG rfl rfl (pure_move rfl) rfl ?_; refine TL.runG rfl rfl (pure_move rfl) rfl ?_; refine TL.runG rfl rfl (pure_eql rfl rfl) rfl ?_; refine TL.run1 (pure_pick_true rfl rfl) rfl ?_; refine TL.run1 (pure_assign rfl) rfl ?_; refine TL.cutEnd (by repeat (first | exact Same.refl _ _ | refine Same.put rfl ?_)) rfl ?_
                first | (simp only [decide_eq_true_eq, Bool.false_eq_true, false_iff, true_iff, iff_true, iff_false, Bool.not_eq_true]; omega) | (simp_all; done) | (simp_all; omega) | grind
              · try dsimp only at hg59
                refine TL.passG rfl rfl rfl rfl ?_; refine TL.passG rfl rfl rfl rfl ?_; refine TL.passG rfl rfl rfl rfl ?_; refine TL.run1 (pure_pick_false rfl rfl) rfl ?_; refine TL.run1 (pure_assign rfl) rfl ?_; refine TL.cutEnd (by repeat (first | exact Same.refl _ _ | refine Same.put rfl ?_)) rfl ?_
                first | (simp only [decide_eq_true_eq, Bool.false_eq_true, false_iff, true_iff, iff_true, iff_false, Bool.not_eq_true]; omega) | (simp_all; done) | (simp_all; omega) | grind
            · try dsimp only at hg55
              refine TL.passG rfl rfl rfl rfl ?_; refine TL.passG rfl rfl rfl rfl ?_; refine TL.run1 (pure_pick_false rfl rfl) rfl ?_; refine TL.run1 (pure_move rfl) rfl ?_; refine TL.passG rfl rfl rfl rfl ?_; refine TL.passG rfl rfl rfl rfl ?_; refine TL.passG rfl rfl rfl rfl ?_; refine TL.run1 (pure_pick_false rfl rfl) rfl ?_; refine TL.run1 (pure_assign rfl) rfl ?_; refine TL.cutEnd (by repeat (first | exact Same.refl _ _ | refine Same.put rfl ?_)) rfl ?_
              first | (simp only [decide_eq_true_eq, Bool.false_eq_true, false_iff, true_iff, iff_true, iff_false, Bool.not_eq_true]; omega) | (simp_all; done) | (simp_all; omega) | grind
          · try dsimp only at hg50
            refine TL.passG rfl rfl rfl rfl ?_; refine TL.passG rfl rfl rfl rfl ?_; refine TL.passG rfl rfl rfl rfl ?_; refine TL.run1 (pure_pick_false rfl rfl) rfl ?_; refine TL.run1 (pure_move rfl) rfl ?_; refine TL.passG rfl rfl rfl rfl ?_; refine TL.passG rfl rfl rfl rfl ?_; refine TL.run1 (pure_pick_false rfl rfl) rfl ?_; refine TL.run1 (pure_move rfl) rfl ?_; refine TL.passG rfl rfl rfl rfl ?_; refine TL.passG rfl rfl rfl rfl ?_; refine TL.passG rfl rfl rfl rfl ?_; refine TL.run1 (pure_pick_false rfl rfl) rfl ?_; refine TL.run1 (pure_assign rfl) rfl ?_; refine TL.cutEnd (by repeat (first | exact Same.refl _ _ | refine Same.put rfl ?_)) rfl ?_
            first | (simp only [decide_eq_true_eq, Bool.false_eq_true, false_iff, true_iff, iff_true, iff_false, Bool.not_eq_true]; omega) | (simp_all; done) | (simp_all; omega) | grind
        refine TC.ret ?_; refine then_ret ?_
        exact ret_bool rfl (by first | rfl | simp | simp_all)
      · try dsimp only at hc46
        exact absurd (by decide) hc46
    · try dsimp only at hc44
      refine TC.skip' ?_; refine TC.seq ?_; refine TC.seq ?_; refine TC.region ?_; refine TL.run1 (pure_move rfl) rfl ?_; refine TL.run1 (pure_neq rfl rfl) rfl ?_; refine TL.nil' ?_
      first | refine TC.condD rfl (fun hc46 => ?_) (fun hc46 => ?_) | refine TC.condN rfl (fun hc46 => ?_) (fun hc46 => ?_) | refine TC.cond rfl (fun hc46 => ?_) (fun hc46 => ?_)
      · try dsimp only at hc46
        have hE : foundE l id = checkS l := by (unfold foundE; rw [if_pos hc46])
        have hb : foundE l id ≠ 0 := by (rw [hE]; exact hc46)
        rw [chainV_bad hb, (folE_bad hb).1, (folE_bad hb).2, hE]
        refine TC.regionCut [47, 48, 49, 50, 51, 52, 53, 54, 55, 56, 57, 58, 59, 60, 61, 62, 63, 4] 4 (True) ?_ ?_
        · skip
          refine TL.run1 (pure_move rfl) rfl ?_
          first | refine TL.run1 (pure_len Ty.sl50 rfl) rfl ?_ | refine TL.run1 (pure_len_row Ty.sl50 rfl (by repeat (first | exact List.Mem.head _ | apply List.Mem.tail))) rfl ?_ | refine TL.run1 (pure_len_nil Ty.sl50 rfl) rfl ?_
          refine TL.run1 (pure_eql rfl rfl) rfl ?_; refine TL.run1 (pure_move rfl) rfl ?_
          first | refine TL.splitP 50 rfl (fun hg50 => ?_) (fun hg50 => ?_) | refine TL.split 50 rfl (fun hg50 => ?_) (fun hg50 => ?_)
          · try dsimp only at hg50
            refine TL.runG rfl rfl (pure_move rfl) rfl ?_; refine TL.runG rfl rfl (pure_move rfl) rfl ?_; refine TL.runG rfl rfl (pure_eql rfl rfl) rfl ?_; refine TL.run1 (pure_pick_true rfl rfl) rfl ?_; refine TL.run1 (pure_move rfl) rfl ?_
            first | refine TL.splitP 55 rfl (fun hg55 => ?_) (fun hg55 => ?_) | refine TL.split 55 rfl (fun hg55 => ?_) (fun hg55 => ?_)
            · try dsimp only at hg55
              refine TL.runG rfl rfl (pure_move rfl) rfl ?_; refine TL.runG rfl rfl (pure_eql rfl rfl) rfl ?_; refine TL.run1 (pure_pick_true rfl rfl) rfl ?_; refine TL.run1 (pure_move rfl) rfl ?_
              first | refine TL.splitP 59 rfl (fun hg59 => ?_) (fun hg59 => ?_) | refine TL.split 59 rfl (fun hg59 => ?_) (fun hg59 => ?_)
              · try dsimp only at hg59
                refine TL.runG rfl rfl (pure_move rfl) rfl ?_; refine TL.runG rfl rfl (pure_move rfl) rfl ?_; refine TL.runG rfl rfl (pure_eql rfl rfl) rfl ?_; refine TL.run1 (pure_pick_true rfl rfl) rfl ?_; refine TL.run1 (pure_assign rfl) rfl ?_; refine TL.cutEnd (by repeat (first | exact Same.refl _ _ | refine Same.put rfl ?_)) rfl ?_
                first | (simp only [decide_eq_true_eq, Bool.false_eq_true, false_iff, true_iff, iff_true, iff_false, Bool.not_eq_true]; omega) | (simp_all; done) | (simp_all; omega) | grind
              · try dsimp only at hg59
                refine TL.passG rfl rfl rfl rfl ?_; refine TL.passG rfl rfl rfl rfl ?_; refine TL.passG rfl rfl rfl rfl ?_; refine TL.run1 (pure_pick_false rfl rfl) rfl ?_; refine TL.run1 (pure_assign rfl) rfl ?_; refine TL.cutEnd (by repeat (first | exact Same.refl _ _ | refine Same.put rfl ?_)) rfl ?_
                first | (simp only [decide_eq_true_eq, Bool.false_eq_true, false_iff, true_iff, iff_true, iff_false, Bool.not_eq_true]; omega) | (simp_all; done) | (simp_all; omega) | grind
            · try dsimp only at hg55
              refine TL.passG rfl rfl rfl rfl ?_; refine TL.passG rfl rfl rfl rfl ?_; refine TL.run1 (pure_pick_false rfl rfl) rfl ?_; refine TL.run1 (pure_move rfl) rfl ?_; refine TL.passG rfl rfl rfl rfl ?_; refine TL.passG rfl rfl rfl rfl ?_; refine TL.passG rfl rfl rfl rfl ?_; refine TL.run1 (pure_pick_false rfl rfl) rfl ?_; refine TL.run1 (pure_assign rfl) rfl ?_; refine TL.cutEnd (by repeat (first | exact Same.refl _ _ | refine Same.put rfl ?_)) rfl ?_
              first | (simp only [decide_eq_true_eq, Bool.false_eq_true, false_iff, true_iff, iff_true, iff_false, Bool.not_eq_true]; omega) | (simp_all; done) | (simp_all; omega) | grind
          · try dsimp only at hg50
            refine TL.passG rfl rfl rfl rfl ?_; refine TL.passG rfl rfl rfl rfl ?_; refine TL.passG rfl rfl rfl rfl ?_; refine TL.run1 (pure_pick_false rfl rfl) rfl ?_; refine TL.run1 (pure_move rfl) rfl ?_; refine TL.passG rfl rfl rfl rfl ?_; refine TL.passG rfl rfl rfl rfl ?_; refine TL.run1 (pure_pick_false rfl rfl) rfl ?_; refine TL.run1 (pure_move rfl) rfl ?_; refine TL.passG rfl rfl rfl rfl ?_; refine TL.passG rfl rfl rfl rfl ?_; refine TL.passG rfl rfl rfl rfl ?_; refine TL.run1 (pure_pick_false rfl rfl) rfl ?_; refine TL.run1 (pure_assign rfl) rfl ?_; refine TL.cutEnd (by repeat (first | exact Same.refl _ _ | refine Same.put rfl ?_)) rfl ?_
            first | (simp only [decide_eq_true_eq, Bool.false_eq_true, false_iff, true_iff, iff_true, iff_false, Bool.not_eq_true]; omega) | (simp_all; done) | (simp_all; omega) | grind
        refine TC.ret ?_; refine then_ret ?_
        exact ret_bool rfl (by first | rfl | simp | simp_all)
      · try dsimp only at hc46
        have hg := checkS_good.1 (Classical.not_not.1 hc46)
        have hfd : 0 ≤ findS l id := Classical.byContradiction fun h => hc44 ⟨Classical.not_not.1 hc46, h⟩
        have hE := foundE_is hg hfd
        have hV : chainV l id = (chI l id (chN l id)) := by (unfold chainV; rw [if_pos hE])
        rw [hV, hE]
        obtain ⟨hch, hcl⟩ := hg.chain (.inr hfd)
        have hcn : chN l id ≤ 1000000 := by omega
        have hcil := chI_len l id (chN l id)
        have hcie := encI_len (chI l id (chN l id))
        refine TC.skip' ?_; refine TC.seq ?_; refine TC.region ?_; refine TL.run1 (pure_move rfl) rfl ?_; refine TL.run1 (pure_move rfl) rfl ?_; refine TL.run1 (pure_call (R8Chain_spec l id (chN l id) hch hcn hl) (.cons rfl (.cons rfl .nil)) Try.call38) rfl ?_; refine TL.run1 (pure_assign rfl) rfl ?_; refine TL.nil' ?_; refine TC.seq ?_; refine TC.regionCut [67, 68, 69, 70, 71, 72, 73, 74, 75] 75 (False) ?_ ?_
        · skip
          refine TL.run1 (pure_move rfl) rfl ?_; refine TL.run1 (pure_neq rfl rfl) rfl ?_; refine TL.run1 (pure_move rfl) rfl ?_
          first | refine TL.splitP 69 rfl (fun hg69 => ?_) (fun hg69 => ?_) | refine TL.split 69 rfl (fun hg69 => ?_) (fun hg69 => ?_)
          · try dsimp only at hg69
            refine TL.passG rfl rfl rfl rfl ?_; refine TL.passG rfl rfl rfl rfl ?_; refine TL.passG rfl rfl rfl rfl ?_; refine TL.passG rfl rfl rfl rfl ?_; refine TL.passG rfl rfl rfl rfl ?_; refine TL.run1 (pure_pick_true rfl rfl) rfl ?_; refine TL.cutEnd (by repeat (first | exact Same.refl _ _ | refine Same.put rfl ?_)) rfl ?_
            first | (simp; done) | (simp_all; done)
          · try dsimp only at hg69
            refine TL.runG rfl rfl (pure_move rfl) rfl ?_
            first | refine TL.runG rfl rfl (pure_len Ty.sl50 rfl) rfl ?_ | refine TL.runG rfl rfl (pure_len_row Ty.sl50 rfl (by repeat (first | exact List.Mem.head _ | apply List.Mem.tail))) rfl ?_ | refine TL.runG rfl rfl (pure_len_nil Ty.sl50 rfl) rfl ?_
            refine TL.runG rfl rfl (pure_move rfl) rfl ?_
            first | refine TL.runG rfl rfl (pure_len Ty.sl50 rfl) rfl ?_ | refine TL.runG rfl rfl (pure_len_row Ty.sl50 rfl (by repeat (first | exact List.Mem.head _ | apply List.Mem.tail))) rfl ?_ | refine TL.runG rfl rfl (pure_len_nil Ty.sl50 rfl) rfl ?_
            refine TL.runG rfl rfl (pure_neq rfl rfl) rfl ?_; refine TL.run1 (pure_pick_false rfl rfl) rfl ?_; refine TL.cutEnd (by repeat (first | exact Same.refl _ _ | refine Same.put rfl ?_)) rfl ?_
            first | (simp; done) | (simp_all; done)
        first | refine TC.condD rfl (fun hc75 => ?_) (fun hc75 => ?_) | refine TC.condN rfl (fun hc75 => ?_) (fun hc75 => ?_) | refine TC.cond rfl (fun hc75 => ?_) (fun hc75 => ?_)
        · try dsimp only at hc75
          all_goals exact absurd hc75 id
        · try dsimp only at hc75
          refine TC.skip' ?_; refine TC.seq ?_; refine TC.seq ?_; refine TC.region ?_; refine TL.run1 (pure_assign rfl) rfl ?_; refine TL.nil' ?_; refine TC.block ?_; refine TC.loopX (X := Nat) (fun i => [(0, .sl 6 (encSs l)), (1, .v (.int .i64 id)), (5, .sl 1 (encI (chI l id (chN l id)))), (7, .v (.int .i64 (folV l id))), (8, .v (.int .i64 (folE l id))), (10, .v (.int .i64 (findS l id))), (11, .sl 1 (encI (chI l id (chN l id)))), (12, .v (.int .i64 i))]) (fun i => []) (fun i => (i ≤ chN l id)) (fun i => chN l id - i) (0) ⟨by skip; repeat (first | exact Agree.nil | refine Agree.cons rfl ?_), by skip; repeat (first | exact List.nil_sublist _ | exact List.Sublist.refl _ | apply List.Sublist.cons_cons | apply List.Sublist.cons)⟩ ?_ ?_
          · skip
            exact Nat.zero_le _
          intro i
          intro h1
          show TC _ _ _ (Env.of [(0, .sl 6 (encSs l)), (1, .v (.int .i64 id)), (5, .sl 1 (encI (chI l id (chN l id)))), (7, .v (.int .i64 (folV l id))), (8, .v (.int .i64 (folE l id))), (10, .v (.int .i64 (findS l id))), (11, .sl 1 (encI (chI l id (chN l id)))), (12, .v (.int .i64 i))]) []
          refine TC.seq ?_; refine TC.seq ?_; refine TC.region ?_; refine TL.run1 (pure_move rfl) rfl ?_; refine TL.run1 (pure_move rfl) rfl ?_
          first | refine TL.run1 (pure_len Ty.sl50 rfl) rfl ?_ | refine TL.run1 (pure_len_row Ty.sl50 rfl (by repeat (first | exact List.Mem.head _ | apply List.Mem.tail))) rfl ?_ | refine TL.run1 (pure_len_nil Ty.sl50 rfl) rfl ?_
          refine TL.run1 (pure_lss rfl rfl) rfl ?_; refine TL.nil' ?_
          first | refine TC.condD rfl (fun hc79 => ?_) (fun hc79 => ?_) | refine TC.condN rfl (fun hc79 => ?_) (fun hc79 => ?_) | refine TC.cond rfl (fun hc79 => ?_) (fun hc79 => ?_)
          · try dsimp only at hc79
            refine TC.skip' ?_; refine TC.seq ?_; refine TC.block ?_; refine TC.seq ?_
            have hrk := chI_get l id (chN l id) i (by omega)
            refine TC.draw Ty.follows (by kernel_rfl) ?_; refine TD.run1 (pure_move rfl) rfl ?_; refine TD.run1 (pure_move rfl) rfl ?_; refine TD.run1 (pure_indexAddr Ty.sl50 rfl rfl (by omega) hrk (List.cons_ne_nil _ _)) rfl ?_
            first | refine TD.run1 (pure_load1 Ty.one3 rfl) rfl ?_ | refine TD.run1 (pure_load1_own Ty.one3 rfl (by repeat (first | exact List.Mem.head _ | apply List.Mem.tail)) (by repeat (first | exact DropR.zero _ | apply DropR.succ))) rfl ?_
            refine TD.run1 (pure_move rfl) rfl ?_; refine TD.run1 (pure_move rfl) rfl ?_; refine TD.run1 (pure_indexAddr Ty.sl50 rfl rfl (by omega) hrk (List.cons_ne_nil _ _)) rfl ?_
            first | refine TD.run1 (pure_load1 Ty.one3 rfl) rfl ?_ | refine TD.run1 (pure_load1_own Ty.one3 rfl (by repeat (first | exact List.Mem.head _ | apply List.Mem.tail)) (by repeat (first | exact DropR.zero _ | apply DropR.succ))) rfl ?_
            refine TD.run1 (pure_neq rfl rfl) rfl ?_; refine TD.nil' ?_
            first | refine TC.condD rfl (fun hc90 => ?_) (fun hc90 => ?_) | refine TC.condN rfl (fun hc90 => ?_) (fun hc90 => ?_) | refine TC.cond rfl (fun hc90 => ?_) (fun hc90 => ?_)
            · try dsimp only at hc90
              exact absurd rfl hc90
            · try dsimp only at hc90
              refine TC.skip ?_; refine block_normal ?_; refine then_normal ?_; refine TC.region ?_; refine TL.run1 (pure_move rfl) rfl ?_; refine TL.run1 (pure_add rfl rfl (mkI64 (by omega) (by omega))) rfl ?_; refine TL.run1 (pure_assign rfl) rfl ?_; refine TL.nil ?_
              refine loop_next (i + 1) ⟨by ((try dsimp only); rw [show (((i + 1 : Nat)) : Int) = (i : Int) + 1 by omega]; repeat (first | exact Agree.nil | refine Agree.cons rfl ?_)), by repeat (first | exact List.nil_sublist _ | exact List.Sublist.refl _ | apply List.Sublist.cons_cons | apply List.Sublist.cons)⟩ (show i + 1 ≤ _ by omega) (by omega)
          · try dsimp only at hc79
            refine TC.exit ?_; refine then_exit ?_; refine loop_exit ?_; refine block_here ?_; refine then_normal ?_; refine TC.seq ?_; refine TC.seq ?_
            have hrow := encSs_get l (findS l id).toNat (by omega)
            rw [show (((findS l id).toNat : Nat) : Int) = findS l id by omega] at hrow
            refine TC.region ?_; refine TL.run1 (pure_move rfl) rfl ?_; refine TL.run1 (pure_move rfl) rfl ?_; refine TL.run1 (pure_indexAddr Ty.sl22 rfl rfl (by omega) hrow (List.cons_ne_nil _ _)) rfl ?_
            first | refine TL.run1 (pure_fieldAddr Ty.f28_1 rfl (.succ (.zero _)) (List.cons_ne_nil _ _)) rfl ?_ | refine TL.run1 (pure_fieldAddr_own Ty.f28_1 rfl) rfl ?_
            first | refine TL.run1 (pure_load1 Ty.one3 rfl) rfl ?_ | refine TL.run1 (pure_load1_own Ty.one3 rfl (by repeat (first | exact List.Mem.head _ | apply List.Mem.tail)) (by repeat (first | exact DropR.zero _ | apply DropR.succ))) rfl ?_
            refine TL.run1 (pure_eql rfl rfl) rfl ?_; refine TL.nil' ?_
            first | refine TC.condD rfl (fun hc96 => ?_) (fun hc96 => ?_) | refine TC.condN rfl (fun hc96 => ?_) (fun hc96 => ?_) | refine TC.cond rfl (fun hc96 => ?_) (fun hc96 => ?_)
            · try dsimp only at hc96
              change (yF l id).kind = 2 at hc96
              rw [(folE_char hE hc96).1, (folE_char hE hc96).2]
              refine TC.regionCut [97, 98, 99, 100, 101, 102, 4] 4 (True) ?_ ?_
              · skip
                refine TL.run1 (pure_move rfl) rfl ?_; refine TL.run1 (pure_eql rfl rfl) rfl ?_; refine TL.run1 (pure_move rfl) rfl ?_
                first | refine TL.splitP 99 rfl (fun hg99 => ?_) (fun hg99 => ?_) | refine TL.split 99 rfl (fun hg99 => ?_) (fun hg99 => ?_)
                · try dsimp only at hg99
                  refine TL.runG rfl rfl (pure_move rfl) rfl ?_; refine TL.runG rfl rfl (pure_eql rfl rfl) rfl ?_; refine TL.run1 (pure_pick_true rfl rfl) rfl ?_; refine TL.run1 (pure_assign rfl) rfl ?_; refine TL.cutEnd (by repeat (first | exact Same.refl _ _ | refine Same.put rfl ?_)) rfl ?_
                  first | (simp only [decide_eq_true_eq, Bool.false_eq_true, false_iff, true_iff, iff_true, iff_false, Bool.not_eq_true]; omega) | (simp_all; done) | (simp_all; omega) | grind
                · try dsimp only at hg99
                  refine TL.passG rfl rfl rfl rfl ?_; refine TL.passG rfl rfl rfl rfl ?_; refine TL.run1 (pure_pick_false rfl rfl) rfl ?_; refine TL.run1 (pure_assign rfl) rfl ?_; refine TL.cutEnd (by repeat (first | exact Same.refl _ _ | refine Same.put rfl ?_)) rfl ?_
                  first | (simp only [decide_eq_true_eq, Bool.false_eq_true, false_iff, true_iff, iff_true, iff_false, Bool.not_eq_true]; omega) | (simp_all; done) | (simp_all; omega) | grind
              refine TC.ret ?_; refine then_ret ?_
              exact ret_bool rfl (by first | rfl | simp | simp_all)
            · try dsimp only at hc96
              change ¬ (yF l id).kind = 2 at hc96
              rw [(folE_para hE hc96).1, (folE_para hE hc96).2]
              refine TC.skip' ?_; refine TC.seq ?_; refine TC.region ?_; refine TL.run1 (pure_move rfl) rfl ?_; refine TL.run1 (pure_move rfl) rfl ?_; refine TL.run1 (pure_indexAddr Ty.sl22 rfl rfl (by omega) hrow (List.cons_ne_nil _ _)) rfl ?_
              first | refine TL.run1 (pure_fieldAddr Ty.f28_4 rfl (.succ (.succ (.succ (.succ (.zero _))))) (List.cons_ne_nil _ _)) rfl ?_ | refine TL.run1 (pure_fieldAddr_own Ty.f28_4 rfl) rfl ?_
              first | refine TL.run1 (pure_load1 Ty.one3 rfl) rfl ?_ | refine TL.run1 (pure_load1_own Ty.one3 rfl (by repeat (first | exact List.Mem.head _ | apply List.Mem.tail)) (by repeat (first | exact DropR.zero _ | apply DropR.succ))) rfl ?_
              refine TL.run1 (pure_assign rfl) rfl ?_; refine TL.nil' ?_; refine TC.seq ?_; refine TC.seq ?_; refine TC.region ?_; refine TL.run1 (pure_move rfl) rfl ?_; refine TL.run1 (pure_eql rfl rfl) rfl ?_; refine TL.nil' ?_
              first | refine TC.condD rfl (fun hc109 => ?_) (fun hc109 => ?_) | refine TC.condN rfl (fun hc109 => ?_) (fun hc109 => ?_) | refine TC.cond rfl (fun hc109 => ?_) (fun hc109 => ?_)
              · try dsimp only at hc109
                change (yF l id).next = 0 at hc109
                rw [if_pos hc109]
                refine TC.region ?_; refine TL.run1 (pure_move rfl) rfl ?_; refine TL.run1 (pure_assign rfl) rfl ?_; refine TL.nil' ?_; refine TC.regionCut [111, 112, 113, 114, 115, 116, 117, 4] 4 (True) ?_ ?_
                · skip
                  refine TL.run1 (pure_move rfl) rfl ?_; refine TL.run1 (pure_move rfl) rfl ?_; refine TL.run1 (pure_eql rfl rfl) rfl ?_; refine TL.run1 (pure_move rfl) rfl ?_
                  first | refine TL.splitP 114 rfl (fun hg114 => ?_) (fun hg114 => ?_) | refine TL.split 114 rfl (fun hg114 => ?_) (fun hg114 => ?_)
                  · try dsimp only at hg114
                    refine TL.runG rfl rfl (pure_move rfl) rfl ?_; refine TL.runG rfl rfl (pure_eql rfl rfl) rfl ?_; refine TL.run1 (pure_pick_true rfl rfl) rfl ?_; refine TL.run1 (pure_assign rfl) rfl ?_; refine TL.cutEnd (by repeat (first | exact Same.refl _ _ | refine Same.put rfl ?_)) rfl ?_
                    first | (simp; done) | exact absurd rfl hg114 | (simp_all; done) | (simp at hg114)
                  · try dsimp only at hg114
                    refine TL.passG rfl rfl rfl rfl ?_; refine TL.passG rfl rfl rfl rfl ?_; refine TL.run1 (pure_pick_false rfl rfl) rfl ?_; refine TL.run1 (pure_assign rfl) rfl ?_; refine TL.cutEnd (by repeat (first | exact Same.refl _ _ | refine Same.put rfl ?_)) rfl ?_
                    first | (simp; done) | exact absurd rfl hg114 | (simp_all; done) | (simp at hg114)
                refine TC.ret ?_
                exact ret_bool rfl (by first | rfl | simp | simp_all)
              · try dsimp only at hc109
                change ¬ (yF l id).next = 0 at hc109
                rw [if_neg hc109]
                refine TC.skip' ?_; refine TC.regionCut [111, 112, 113, 114, 115, 116, 117, 4] 4 (True) ?_ ?_
                · skip
                  refine TL.run1 (pure_move rfl) rfl ?_; refine TL.run1 (pure_move rfl) rfl ?_; refine TL.run1 (pure_eql rfl rfl) rfl ?_; refine TL.run1 (pure_move rfl) rfl ?_
                  first | refine TL.splitP 114 rfl (fun hg114 => ?_) (fun hg114 => ?_) | refine TL.split 114 rfl (fun hg114 => ?_) (fun hg114 => ?_)
                  · try dsimp only at hg114
                    refine TL.runG rfl rfl (pure_move rfl) rfl ?_; refine TL.runG rfl rfl (pure_eql rfl rfl) rfl ?_; refine TL.run1 (pure_pick_true rfl rfl) rfl ?_; refine TL.run1 (pure_assign rfl) rfl ?_; refine TL.cutEnd (by repeat (first | exact Same.refl _ _ | refine Same.put rfl ?_)) rfl ?_
                    first | (simp; done) | exact absurd rfl hg114 | (simp_all; done) | (simp at hg114)
                  · try dsimp only at hg114
                    refine TL.passG rfl rfl rfl rfl ?_; refine TL.passG rfl rfl rfl rfl ?_; refine TL.run1 (pure_pick_false rfl rfl) rfl ?_; refine TL.run1 (pure_assign rfl) rfl ?_; refine TL.cutEnd (by repeat (first | exact Same.refl _ _ | refine Same.put rfl ?_)) rfl ?_
                    first | (simp; done) | exact absurd rfl hg114 | (simp_all; done) | (simp at hg114)
                refine TC.ret ?_
                exact ret_bool rfl (by first | rfl | simp | simp_all)
set_option maxHeartbeats 1000000 in
set_option maxRecDepth 100000 in
theorem StylesheetChecks_spec (l : List Sty) (more : Int) (hlal : l.length ≤ 9223372036854775807) (hm0 : 0 ≤ more) (hm1 : more < 256) : Fun Try.prog 3 [.sl 6 (encSs l), .v (.int .u8 more)] (.v (.bool true)) := by
  refine Fun.enter (n := 54) (rs := [.tmp 4]) Try.func3 rfl Try.ntmps3 Try.results3 rfl (fun w F => ?_)
  refine TC.seq ?_; refine TC.region ?_; refine TL.run1 (pure_assign rfl) rfl ?_; refine TL.nil' ?_; refine TC.seq ?_; refine TC.regionCut [7, 8, 9, 10, 11, 12, 13] 13 (¬ SmallP l) ?_ ?_
  · skip
    refine TL.run1 (pure_call (known_spec) .nil Try.call13) rfl ?_; refine TL.run1 (pure_not rfl) rfl ?_; refine TL.run1 (pure_move rfl) rfl ?_
    first | refine TL.splitP 9 rfl (fun hg9 => ?_) (fun hg9 => ?_) | refine TL.split 9 rfl (fun hg9 => ?_) (fun hg9 => ?_)
    · try dsimp only at hg9
      refine TL.passG rfl rfl rfl rfl ?_; refine TL.passG rfl rfl rfl rfl ?_; refine TL.passG rfl rfl rfl rfl ?_; refine TL.run1 (pure_pick_true rfl rfl) rfl ?_; refine TL.cutEnd (by repeat (first | exact Same.refl _ _ | refine Same.put rfl ?_)) rfl ?_
      first | (simp only [decide_eq_true_eq, Bool.false_eq_true, false_iff, true_iff, iff_true, iff_false, Bool.not_eq_true]; omega) | (simp_all; done) | (simp_all; omega) | grind
    · try dsimp only at hg9
      refine TL.runG rfl rfl (pure_move rfl) rfl ?_; refine TL.runG rfl rfl (pure_call (Small_spec l hlal) (.cons rfl .nil) Try.call14) rfl ?_; refine TL.runG rfl rfl (pure_not rfl) rfl ?_; refine TL.run1 (pure_pick_false rfl rfl) rfl ?_; refine TL.cutEnd (by repeat (first | exact Same.refl _ _ | refine Same.put rfl ?_)) rfl ?_
      first | (simp only [decide_eq_true_eq, Bool.false_eq_true, false_iff, true_iff, iff_true, iff_false, Bool.not_eq_true]; omega) | (simp_all; done) | (simp_all; omega) | grind
  first | refine TC.condD rfl (fun hc13 => ?_) (fun hc13 => ?_) | refine TC.condN rfl (fun hc13 => ?_) (fun hc13 => ?_) | refine TC.cond rfl (fun hc13 => ?_) (fun hc13 => ?_)
  · try dsimp only at hc13
    refine TC.seq ?_; refine TC.region ?_; refine TL.run1 (pure_call (known_spec) .nil Try.call13) rfl ?_; refine TL.run1 (pure_assign rfl) rfl ?_; refine TL.nil' ?_; refine TC.ret ?_; refine then_ret ?_
    exact ret_bool rfl (by first | rfl | simp | simp_all)
  · try dsimp only at hc13
    have hs : SmallP l := Classical.not_not.1 hc13
    obtain ⟨hl24, hsm⟩ := hs
    have hl : l.length ≤ 1000000 := by omega
    have hn : ∀ i, i < l.length → (yAt l i).name.size ≤ 1000000000 := fun i hi => by have := (hsm i hi).2; omega
    have hp : ∀ i, i < l.length → (yAt l i).props.length ≤ 1000000 := fun i hi => by have := (hsm i hi).1; omega
    refine TC.skip' ?_; refine TC.seq ?_; refine TC.region ?_; refine TL.run1 (pure_assign rfl) rfl ?_; refine TL.nil' ?_; refine TC.seq ?_; refine TC.seq ?_; refine TC.nilrow 28 6 ?_; refine TC.region ?_; refine TL.run1 (pure_assign rfl) rfl ?_; refine TL.nil' ?_; refine TC.block ?_; refine TC.loopX (X := Nat × Value) (fun (i, v) => [(0, .sl 6 (encSs l)), (1, .v (.int .u8 more)), (5, .v v), (6, .v (.int .i64 i))]) (fun (i, v) => [.row v 28 6 (encSs (longTo i))]) (fun (i, v) => (i ≤ (120 + more % 16).toNat)) (fun (i, v) => (120 + more % 16).toNat - i) (0, .slice none 0 0) ⟨by skip; repeat (first | exact Agree.nil | refine Agree.cons rfl ?_), by skip; repeat (first | exact List.nil_sublist _ | exact List.Sublist.refl _ | apply List.Sublist.cons_cons | apply List.Sublist.cons)⟩ ?_ ?_
    · skip
      exact Nat.zero_le _
    rintro ⟨i, v⟩
    intro h1
    show TC _ _ _ (Env.of [(0, .sl 6 (encSs l)), (1, .v (.int .u8 more)), (5, .v v), (6, .v (.int .i64 i))]) [.row v 28 6 (encSs (longTo i))]
    refine TC.seq ?_; refine TC.seq ?_; refine TC.region ?_; refine TL.run1 (pure_move rfl) rfl ?_; refine TL.run1 (pure_move rfl) rfl ?_; refine TL.run1 (pure_remK rfl rfl (by omega) (by omega)) rfl ?_; refine TL.run1 (pure_conv Try.underlying5 Try.underlying3 rfl (fit_i64 (by omega) (by omega))) rfl ?_; refine TL.run1 (pure_add rfl rfl (mkI64 (by omega) (by omega))) rfl ?_; refine TL.run1 (pure_lss rfl rfl) rfl ?_; refine TL.nil' ?_
    first | refine TC.condD rfl (fun hc20 => ?_) (fun hc20 => ?_) | refine TC.condN rfl (fun hc20 => ?_) (fun hc20 => ?_) | refine TC.cond rfl (fun hc20 => ?_) (fun hc20 => ?_)
    · try dsimp only at hc20
      refine TC.skip' ?_; refine TC.seq ?_; refine TC.block ?_
      have hil : i < 135 := by omega
      have hll := longTo_len i
      have hle := encSs_len (longTo i)
      refine TC.region ?_; refine TL.run1 (pure_move rfl) rfl ?_; refine TL.run1 (pure_move rfl) rfl ?_; refine TL.run1 (pure_add rfl rfl (mkI64 (by omega) (by omega))) rfl ?_; refine TL.run1 (pure_move rfl) rfl ?_; refine TL.run1 (pure_rem rfl rfl (by omega) (by omega)) rfl ?_; refine TL.run1 (pure_add rfl rfl (mkI64 (by omega) (by omega))) rfl ?_; refine TL.run1 (pure_move rfl) rfl ?_; refine TL.run1 (pure_quo rfl rfl (by omega) (by omega) (by omega)) rfl ?_; refine TL.run1 (pure_conv Try.underlying3 Try.underlying5 rfl (fit_u8 (by omega) (by omega))) rfl ?_; refine TL.run1 (pure_addw rfl rfl) rfl ?_; refine TL.run1 (pure_move rfl) rfl ?_; refine TL.run1 (pure_rem rfl rfl (by omega) (by omega)) rfl ?_; refine TL.run1 (pure_conv Try.underlying3 Try.underlying5 rfl (fit_u8 (by omega) (by omega))) rfl ?_; refine TL.run1 (pure_addw rfl rfl) rfl ?_; refine TL.run1 (pure_buildSlice (xs := [.tmp 32, .tmp 36]) Ty.app25 (by decide) rfl rfl (.cons rfl (.one rfl) rfl (.cons rfl (.one rfl) rfl .nil))) rfl ?_; refine TL.run1 (pure_conv_bytes (ns := [_, _]) Try.underlying25 Try.underlying5 Try.underlying9 rfl) rfl ?_; refine TL.run1 (pure_build Ty.pl28 Ty.zero28 (.cons rfl rfl (.one rfl) rfl (.here (.nil _)) (.cons rfl rfl (.one rfl) rfl (.skip (.here (.nil _))) (.cons rfl rfl (.one rfl) rfl (.skip (.skip (.here (.nil _)))) (.nil _))))) rfl ?_; refine TL.le 39 rfl (Le.agg (.cons (Le.refl _) (.cons (Le.refl _) (.cons (Le.refl _) (.cons (Le.refl _) (.cons (Le.refl _) (.cons (Le.nil 2) .nil))))))) ?_; refine TL.run1 (pure_buildSlice (xs := [.tmp 39]) Ty.app22 (by decide) rfl rfl (.cons rfl (.agg _) rfl .nil)) rfl ?_
      refine TL.append Ty.app22 rfl rfl (by intro _; repeat (first | exact UpdR.here _ | apply UpdR.there)) (by simp only [List.length_append, List.length_cons, List.length_nil]; omega) (by simp only [List.length_append, List.length_cons, List.length_nil]; omega) rfl (fun v41 hv41 => ?_)
      refine TL.run1 (pure_assign rfl) rfl ?_; refine TL.nil ?_; refine block_normal ?_; refine then_normal ?_; refine TC.region ?_; refine TL.run1 (pure_move rfl) rfl ?_; refine TL.run1 (pure_add rfl rfl (mkI64 (by omega) (by omega))) rfl ?_; refine TL.run1 (pure_assign rfl) rfl ?_; refine TL.nil ?_
      have hst := longTo_succ i
      refine loop_next (i + 1, v41) ⟨by ((try dsimp only); rw [show (((i + 1 : Nat)) : Int) = (i : Int) + 1 by omega]; repeat (first | exact Agree.nil | refine Agree.cons rfl ?_)), by (try dsimp only); rw [hst]; repeat (first | exact List.nil_sublist _ | exact List.Sublist.refl _ | apply List.Sublist.cons_cons | apply List.Sublist.cons)⟩ (show i + 1 ≤ _ by omega) (by (try dsimp only); omega)
    · try dsimp only at hc20
      refine TC.exit ?_; refine then_exit ?_; refine loop_exit ?_; refine block_here ?_; refine then_normal ?_
      have hie : i = (120 + more % 16).toNat := by omega
      subst hie
      refine TC.frz 5 [] (List.nil_sublist _) rfl (.rowS (gone_nil (by repeat (first | exact List.Mem.head _ | apply List.Mem.tail))) (by decide) (encSs_each _)) ?_
      have hgl : (longTo (120 + more % 16).toNat).length ≤ 1000000 := by rw [longTo_len]; omega
      have hgn : ∀ i, i < (longTo (120 + more % 16).toNat).length → (yAt (longTo (120 + more % 16).toNat) i).name.size ≤ 1000000000 := fun i hi => by (rw [longTo_len] at hi; rw [longTo_at _ _ hi]; exact (by decide : (2 : Nat) ≤ 1000000000))
      have hgp : ∀ i, i < (longTo (120 + more % 16).toNat).length → (yAt (longTo (120 + more % 16).toNat) i).props.length ≤ 1000000 := fun i hi => by (rw [longTo_len] at hi; rw [longTo_at _ _ hi]; exact Nat.zero_le _)
      refine TC.regionCut [42, 43, 44, 45, 46, 47, 48, 49, 50, 51, 52, 53, 4] 4 (True) ?_ ?_
      · skip
        refine TL.run1 (pure_move rfl) rfl ?_
        first | refine TL.run1 (pure_call (SCheck_spec l hl hn hp) (.cons rfl .nil) Try.call15) rfl ?_ | refine TL.run1 (pure_call (SCheck_spec (longTo (120 + more % 16).toNat) hgl hgn hgp) (.cons rfl .nil) Try.call15) rfl ?_
        refine TL.run1 (pure_move rfl) rfl ?_
        first | refine TL.run1 (pure_call (R8Check_spec l hl hn hp) (.cons rfl .nil) Try.call16) rfl ?_ | refine TL.run1 (pure_call (R8Check_spec (longTo (120 + more % 16).toNat) hgl hgn hgp) (.cons rfl .nil) Try.call16) rfl ?_
        refine TL.run1 (pure_eql rfl rfl) rfl ?_; refine TL.run1 (pure_move rfl) rfl ?_
        first | refine TL.splitP 47 rfl (fun hg47 => ?_) (fun hg47 => ?_) | refine TL.split 47 rfl (fun hg47 => ?_) (fun hg47 => ?_)
        · try dsimp only at hg47
          refine TL.runG rfl rfl (pure_move rfl) rfl ?_
          first | refine TL.runG rfl rfl (pure_call (SCheck_spec l hl hn hp) (.cons rfl .nil) Try.call15) rfl ?_ | refine TL.runG rfl rfl (pure_call (SCheck_spec (longTo (120 + more % 16).toNat) hgl hgn hgp) (.cons rfl .nil) Try.call15) rfl ?_
          refine TL.runG rfl rfl (pure_move rfl) rfl ?_
          first | refine TL.runG rfl rfl (pure_call (R8Check_spec l hl hn hp) (.cons rfl .nil) Try.call16) rfl ?_ | refine TL.runG rfl rfl (pure_call (R8Check_spec (longTo (120 + more % 16).toNat) hgl hgn hgp) (.cons rfl .nil) Try.call16) rfl ?_
          refine TL.runG rfl rfl (pure_eql rfl rfl) rfl ?_; refine TL.run1 (pure_pick_true rfl rfl) rfl ?_; refine TL.run1 (pure_assign rfl) rfl ?_; refine TL.cutEnd (by repeat (first | exact Same.refl _ _ | refine Same.put rfl ?_)) rfl ?_
          first | (simp only [decide_eq_true_eq, Bool.false_eq_true, false_iff, true_iff, iff_true, iff_false, Bool.not_eq_true]; omega) | (simp_all; done) | (simp_all; omega) | grind
        · try dsimp only at hg47
          refine TL.passG rfl rfl rfl rfl ?_; refine TL.passG rfl rfl rfl rfl ?_; refine TL.passG rfl rfl rfl rfl ?_; refine TL.passG rfl rfl rfl rfl ?_; refine TL.passG rfl rfl rfl rfl ?_; refine TL.run1 (pure_pick_false rfl rfl) rfl ?_; refine TL.run1 (pure_assign rfl) rfl ?_; refine TL.cutEnd (by repeat (first | exact Same.refl _ _ | refine Same.put rfl ?_)) rfl ?_
          first | (simp only [decide_eq_true_eq, Bool.false_eq_true, false_iff, true_iff, iff_true, iff_false, Bool.not_eq_true]; omega) | (simp_all; done) | (simp_all; omega) | grind
      refine TC.ret ?_
      exact ret_bool rfl (by first | rfl | simp | simp_all)
end Go.Ob
