import Derived.Test.YtcfnfioefbkamaaDoorPr
set_option linter.unusedVariables false
set_option linter.unusedSimpArgs false
namespace Go.Ob
open Go.Proofs

def encI (l : List Int) : List (List D) := l.map fun x => [.v (.int .i64 x)]
def iAt (l : List Int) (i : Int) : Int := l.getD i.toNat 0
theorem encI_len (l : List Int) : (encI l).length = l.length := by simp [encI]
theorem encI_get (l : List Int) (i : Int) (h0 : 0 ≤ i) (h1 : i < l.length) : (encI l)[i.toNat]? = some [.v (.int .i64 (iAt l i))] := by
  have : i.toNat < l.length := by omega
  simp [encI, iAt, this]
theorem encI_snoc (l : List Int) (a : Int) : encI (l ++ [a]) = encI l ++ [[.v (.int .i64 a)]] := by simp [encI]
theorem encI_each (l : List Int) : ∀ x ∈ encI l, x.length = 1 := by
  intro x hx; simp only [encI, List.mem_map] at hx; obtain ⟨s, _, rfl⟩ := hx; rfl
theorem iAt_snoc (l : List Int) (a : Int) (i : Int) (h0 : 0 ≤ i) (h : i < l.length) : iAt (l ++ [a]) i = iAt l i := by
  unfold iAt
  simp only [List.getD_eq_getElem?_getD]
  rw [List.getElem?_append_left (by omega)]
def classOfP (l : List Span) (p : Int) : Int := if 44032 ≤ p ∧ p ≤ 55203 then (if (p - 44032) % 28 = 0 then 11 else 12) else clsIn l p
set_option maxRecDepth 100000 in
theorem classOf_spec (l : List Span) (p : Int) (ha : Apart l) (hl : l.length ≤ 1000000) : Fun Tryd.prog 93 [.sl 3 (encS l), .v (.int .i64 p)] (.v (.int .i64 (classOfP l p))) := by
  refine Fun.enter (n := 38) (rs := [.tmp 4]) Tryd.func93 rfl Tryd.ntmps93 Tryd.results93 rfl (fun w F => ?_)
  have hk := encS_len l
  have hle := hiI_le l p
  refine TC.seq ?_; refine TC.region ?_; refine TL.box rfl (.one rfl) rfl (fun g2 => ?_); refine TL.box rfl (.one rfl) rfl (fun g3 => ?_); refine TL.run1 (pure_assign rfl) rfl ?_; refine TL.nil' ?_; refine TC.seq ?_; refine TC.frz2 2 3 rfl rfl (.boxS (gone_nil (by repeat (first | exact List.Mem.head _ | apply List.Mem.tail))) (List.cons_ne_nil _ _)) (.boxS (gone_nil (by repeat (first | exact List.Mem.head _ | apply List.Mem.tail))) (List.cons_ne_nil _ _)) ?_; refine TC.regionCut [6, 7, 8, 9, 10, 11] 11 (44032 ≤ p ∧ p ≤ 55203) ?_ ?_
  · skip
    refine TL.run1 (pure_load1 Ty.one3 rfl) rfl ?_; refine TL.run1 (pure_geq rfl rfl) rfl ?_; refine TL.run1 (pure_move rfl) rfl ?_; refine TL.splitP 8 rfl (fun hg8 => ?_) (fun hg8 => ?_)
    · try dsimp only at hg8
      refine TL.runG rfl rfl (pure_load1 Ty.one3 rfl) rfl ?_; refine TL.runG rfl rfl (pure_leq rfl rfl) rfl ?_; refine TL.run1 (pure_pick_true rfl rfl) rfl ?_; refine TL.cutEnd (by repeat (first | exact Same.refl _ _ | refine Same.put rfl ?_)) rfl ?_
      first | (simp only [decide_eq_true_eq, Bool.false_eq_true, false_iff, true_iff, iff_true, iff_false, Bool.not_eq_true]; omega) | (simp_all; done) | (simp_all; omega) | grind
    · try dsimp only at hg8
      (iterate 2 refine TL.passG rfl rfl rfl rfl ?_); refine TL.run1 (pure_pick_false rfl rfl) rfl ?_; refine TL.cutEnd (by repeat (first | exact Same.refl _ _ | refine Same.put rfl ?_)) rfl ?_
      first | (simp only [decide_eq_true_eq, Bool.false_eq_true, false_iff, true_iff, iff_true, iff_false, Bool.not_eq_true]; omega) | (simp_all; done) | (simp_all; omega) | grind
  refine TC.condD rfl (fun hc11 => ?_) (fun hc11 => ?_)
  · try dsimp only at hc11
    (iterate 2 refine TC.seq ?_); refine TC.region ?_; refine TL.run1 (pure_load1 Ty.one3 rfl) rfl ?_; refine TL.run1 (pure_sub rfl rfl (mkI64 (by omega) (by omega))) rfl ?_; refine TL.run1 (pure_rem rfl rfl (by omega) (by omega)) rfl ?_; refine TL.run1 (pure_eql rfl rfl) rfl ?_; refine TL.nil' ?_; refine TC.condD rfl (fun hc15 => ?_) (fun hc15 => ?_)
    · try dsimp only at hc15
      refine TC.seq ?_; refine TC.region ?_; refine TL.run1 (pure_assign rfl) rfl ?_; refine TL.nil' ?_; refine TC.ret ?_; (iterate 2 refine then_ret ?_)
      exact ret_int rfl (by unfold classOfP; rw [if_pos hc11, if_pos hc15])
    · try dsimp only at hc15
      refine TC.skip' ?_; refine TC.seq ?_; refine TC.region ?_; refine TL.run1 (pure_assign rfl) rfl ?_; refine TL.nil' ?_; refine TC.ret ?_; refine then_ret ?_
      exact ret_int rfl (by unfold classOfP; rw [if_pos hc11, if_neg hc15])
  · try dsimp only at hc11
    refine TC.skip' ?_; refine TC.seq ?_; refine TC.region ?_; refine TL.run1 (pure_load1 Ty.one129 rfl) rfl ?_; refine TL.run1 (pure_len Ty.sl129 rfl) rfl ?_; refine TL.run1 (pure_makeFunc (.cons rfl (.cons rfl .nil))) rfl ?_; refine TL.run1 (pure_call (search45_spec l p ((encS l).length : Int) (by omega) (fun i => decide ((sAt l i).2.1 ≥ p)) (fun i a b => classOf1_spec l p i a (by omega)) (hiI l p : Int) (by omega) (by omega) (fun i a b => decide_eq_false (by have := hiI_lo l p i a b; omega)) (fun i a b => decide_eq_true (hiI_hi ha p i a (by omega)))) (.cons rfl (.cons rfl .nil)) Tryd.call98) rfl ?_; refine TL.run1 (pure_assign rfl) rfl ?_; refine TL.nil' ?_; refine TC.seq ?_; refine TC.drawCut [20, 21, 22, 23, 24, 25, 26, 27, 28, 29, 30, 31, 32] 32 ((hiI l p : Int) < l.length ∧ (sAt l (hiI l p : Int)).1 ≤ p) Ty.follows (by kernel_rfl) ?_ ?_
    · skip
      refine TD.run1 (pure_move rfl) rfl ?_; refine TD.run1 (pure_load1 Ty.one129 rfl) rfl ?_; refine TD.run1 (pure_len Ty.sl129 rfl) rfl ?_; refine TD.run1 (pure_lss rfl rfl) rfl ?_; refine TD.run1 (pure_move rfl) rfl ?_; refine TD.splitP 24 rfl (fun hg24 => ?_) (fun hg24 => ?_)
      · try dsimp only at hg24
        have hrow := encS_get l (hiI l p : Int) (by omega) (by omega)
        refine TD.runG rfl rfl (pure_load1 Ty.one129 rfl) rfl ?_; refine TD.runG rfl rfl (pure_move rfl) rfl ?_; refine TD.runG rfl rfl (pure_indexAddr Ty.sl129 rfl rfl (by omega) (by assumption) (List.cons_ne_nil _ _)) rfl ?_; refine TD.runG rfl rfl (pure_fieldAddr Ty.f139_0 rfl (.zero _) (List.cons_ne_nil _ _)) rfl ?_; (iterate 2 refine TD.runG rfl rfl (pure_load1 Ty.one3 rfl) rfl ?_); refine TD.runG rfl rfl (pure_leq rfl rfl) rfl ?_; refine TD.run1 (pure_pick_true rfl rfl) rfl ?_; refine TD.cutEnd (by repeat (first | exact Same.refl _ _ | refine Same.put rfl ?_)) rfl ?_
        first | (simp only [decide_eq_true_eq, Bool.false_eq_true, false_iff, true_iff, iff_true, iff_false, Bool.not_eq_true]; omega) | (simp_all; done) | (simp_all; omega) | grind
      · try dsimp only at hg24
        (iterate 7 refine TD.passG rfl rfl rfl rfl ?_); refine TD.run1 (pure_pick_false rfl rfl) rfl ?_; refine TD.cutEnd (by repeat (first | exact Same.refl _ _ | refine Same.put rfl ?_)) rfl ?_
        first | (simp only [decide_eq_true_eq, Bool.false_eq_true, false_iff, true_iff, iff_true, iff_false, Bool.not_eq_true]; omega) | (simp_all; done) | (simp_all; omega) | grind
    refine TC.condD rfl (fun hc32 => ?_) (fun hc32 => ?_)
    · try dsimp only at hc32
      refine TC.seq ?_
      have hrow := encS_get l (hiI l p : Int) (by omega) (by omega)
      refine TC.region ?_; refine TL.run1 (pure_load1 Ty.one129 rfl) rfl ?_; refine TL.run1 (pure_move rfl) rfl ?_; refine TL.run1 (pure_indexAddr Ty.sl129 rfl rfl (by omega) (by assumption) (List.cons_ne_nil _ _)) rfl ?_; refine TL.run1 (pure_fieldAddr Ty.f139_2 rfl (.succ (.succ (.zero _))) (List.cons_ne_nil _ _)) rfl ?_; refine TL.run1 (pure_load1 Ty.one3 rfl) rfl ?_; refine TL.run1 (pure_assign rfl) rfl ?_; refine TL.nil' ?_; refine TC.ret ?_; refine then_ret ?_
      exact ret_int rfl (by unfold classOfP; rw [if_neg hc11, clsIn_hi ha, if_pos hc32])
    · try dsimp only at hc32
      refine TC.skip' ?_; refine TC.seq ?_; refine TC.region ?_; refine TL.run1 (pure_assign rfl) rfl ?_; refine TL.nil' ?_; refine TC.ret ?_
      exact ret_int rfl (by unfold classOfP; rw [if_neg hc11, clsIn_hi ha, if_neg hc32])
set_option maxRecDepth 100000 in
theorem within_spec (l : List Span) (p : Int) (hl : l.length ≤ 1000000) : Fun Tryd.prog 82 [.sl 3 (encS l), .v (.int .i64 p)] (.v (.int .i64 (clsIn l p))) := by
  refine Fun.enter (n := 33) (rs := [.tmp 4]) Tryd.func82 rfl Tryd.ntmps82 Tryd.results82 rfl (fun w F => ?_)
  have hk := encS_len l
  refine TC.seq ?_; refine TC.region ?_; refine TL.run1 (pure_assign rfl) rfl ?_; refine TL.nil' ?_; (iterate 2 refine TC.seq ?_); refine TC.region ?_; refine TL.run1 (pure_assign rfl) rfl ?_; refine TL.nil' ?_; refine TC.block ?_; refine TC.loopX (X := Int) (fun i => [(0, .sl 3 (encS l)), (1, .v (.int .i64 p)), (5, .v (.int .i64 i))]) (fun i => []) (fun i => (0 ≤ i) ∧ (i ≤ l.length) ∧ (clsIn l p = clsIn (l.drop i.toNat) p)) (fun i => (l.length - i).toNat) (0) ⟨by skip; repeat (first | exact Agree.nil | refine Agree.cons rfl ?_), by skip; repeat (first | exact List.nil_sublist _ | exact List.Sublist.refl _ | apply List.Sublist.cons_cons | apply List.Sublist.cons)⟩ ?_ ?_
  · skip
    exact ⟨by omega, by omega, rfl⟩
  intro i
  rintro ⟨h0, h1, h2⟩
  show TC _ _ _ (Env.of [(0, .sl 3 (encS l)), (1, .v (.int .i64 p)), (5, .v (.int .i64 i))]) []
  (iterate 2 refine TC.seq ?_); refine TC.region ?_; (iterate 2 refine TL.run1 (pure_move rfl) rfl ?_); refine TL.run1 (pure_len Ty.sl117 rfl) rfl ?_; refine TL.run1 (pure_lss rfl rfl) rfl ?_; refine TL.nil' ?_; refine TC.condD rfl (fun hc9 => ?_) (fun hc9 => ?_)
  · try dsimp only at hc9
    refine TC.skip' ?_; refine TC.seq ?_; refine TC.block ?_
    have hrow := encS_get l i h0 (by omega)
    have hst := clsIn_drop l i p h0 (by omega)
    refine TC.regionCut [12, 13, 14, 15, 16, 17, 18, 19, 20, 21, 22, 23, 24, 25, 26, 27] 27 ((sAt l i).1 ≤ p ∧ p ≤ (sAt l i).2.1) ?_ ?_
    · skip
      (iterate 3 refine TL.run1 (pure_move rfl) rfl ?_); refine TL.run1 (pure_indexAddr Ty.sl117 rfl rfl (by omega) (by assumption) (List.cons_ne_nil _ _)) rfl ?_; refine TL.run1 (pure_fieldAddr Ty.f136_0 rfl (.zero _) (List.cons_ne_nil _ _)) rfl ?_; refine TL.run1 (pure_load1 Ty.one3 rfl) rfl ?_; refine TL.run1 (pure_geq rfl rfl) rfl ?_; refine TL.run1 (pure_move rfl) rfl ?_; refine TL.splitP 19 rfl (fun hg19 => ?_) (fun hg19 => ?_)
      · try dsimp only at hg19
        (iterate 3 refine TL.runG rfl rfl (pure_move rfl) rfl ?_); refine TL.runG rfl rfl (pure_indexAddr Ty.sl117 rfl rfl (by omega) (by assumption) (List.cons_ne_nil _ _)) rfl ?_; refine TL.runG rfl rfl (pure_fieldAddr Ty.f136_1 rfl (.succ (.zero _)) (List.cons_ne_nil _ _)) rfl ?_; refine TL.runG rfl rfl (pure_load1 Ty.one3 rfl) rfl ?_; refine TL.runG rfl rfl (pure_leq rfl rfl) rfl ?_; refine TL.run1 (pure_pick_true rfl rfl) rfl ?_; refine TL.cutEnd (by repeat (first | exact Same.refl _ _ | refine Same.put rfl ?_)) rfl ?_
        first | (simp only [decide_eq_true_eq, Bool.false_eq_true, false_iff, true_iff, iff_true, iff_false, Bool.not_eq_true]; omega) | (simp_all; done) | (simp_all; omega) | grind
      · try dsimp only at hg19
        (iterate 7 refine TL.passG rfl rfl rfl rfl ?_); refine TL.run1 (pure_pick_false rfl rfl) rfl ?_; refine TL.cutEnd (by repeat (first | exact Same.refl _ _ | refine Same.put rfl ?_)) rfl ?_
        first | (simp only [decide_eq_true_eq, Bool.false_eq_true, false_iff, true_iff, iff_true, iff_false, Bool.not_eq_true]; omega) | (simp_all; done) | (simp_all; omega) | grind
    refine TC.condD rfl (fun hc27 => ?_) (fun hc27 => ?_)
    · try dsimp only at hc27
      refine TC.seq ?_; refine TC.region ?_; (iterate 2 refine TL.run1 (pure_move rfl) rfl ?_); refine TL.run1 (pure_indexAddr Ty.sl117 rfl rfl (by omega) (by assumption) (List.cons_ne_nil _ _)) rfl ?_; refine TL.run1 (pure_fieldAddr Ty.f136_2 rfl (.succ (.succ (.zero _))) (List.cons_ne_nil _ _)) rfl ?_; refine TL.run1 (pure_load1 Ty.one3 rfl) rfl ?_; refine TL.run1 (pure_assign rfl) rfl ?_; refine TL.nil' ?_; refine TC.ret ?_; refine block_ret ?_; refine then_ret ?_; refine loop_ret ?_; refine block_ret ?_; refine then_ret ?_
      exact ret_int rfl (by rw [h2, hst, if_pos hc27])
    · try dsimp only at hc27
      refine TC.skip ?_; refine block_normal ?_; refine then_normal ?_; refine TC.region ?_; refine TL.run1 (pure_move rfl) rfl ?_; refine TL.run1 (pure_add rfl rfl (mkI64 (by omega) (by omega))) rfl ?_; refine TL.run1 (pure_assign rfl) rfl ?_; refine TL.nil ?_; refine loop_next (i + 1) ⟨by repeat (first | exact Agree.nil | refine Agree.cons rfl ?_), by repeat (first | exact List.nil_sublist _ | exact List.Sublist.refl _ | apply List.Sublist.cons_cons | apply List.Sublist.cons)⟩ ⟨by omega, by omega, by rw [h2, hst, if_neg hc27]⟩ (by omega)
  · try dsimp only at hc9
    refine TC.exit ?_; refine then_exit ?_; refine loop_exit ?_; refine block_here ?_; refine then_normal ?_; refine TC.seq ?_; refine TC.region ?_; refine TL.run1 (pure_assign rfl) rfl ?_; refine TL.nil' ?_; refine TC.ret ?_
    exact ret_int rfl (by rw [h2, List.drop_eq_nil_of_le (by omega)]; rfl)
set_option maxRecDepth 100000 in
theorem RClass_spec (p : Int) : Fun Tryd.prog 59 [.v (.int .i64 p)] (.v (.int .i64 (classP p))) := by
  refine Fun.enter (n := 23) (rs := [.tmp 2]) Tryd.func59 rfl Tryd.ntmps59 Tryd.results59 rfl (fun w F => ?_); refine TC.seq ?_; refine TC.region ?_; refine TL.run1 (pure_assign rfl) rfl ?_; refine TL.nil' ?_; refine TC.seq ?_; refine TC.regionCut [4, 5, 6, 7, 8, 9] 9 (44032 ≤ p ∧ p ≤ 55203) ?_ ?_
  · skip
    refine TL.run1 (pure_move rfl) rfl ?_; refine TL.run1 (pure_geq rfl rfl) rfl ?_; refine TL.run1 (pure_move rfl) rfl ?_; refine TL.splitP 6 rfl (fun hg6 => ?_) (fun hg6 => ?_)
    · try dsimp only at hg6
      refine TL.runG rfl rfl (pure_move rfl) rfl ?_; refine TL.runG rfl rfl (pure_leq rfl rfl) rfl ?_; refine TL.run1 (pure_pick_true rfl rfl) rfl ?_; refine TL.cutEnd (by repeat (first | exact Same.refl _ _ | refine Same.put rfl ?_)) rfl ?_
      first | (simp only [decide_eq_true_eq, Bool.false_eq_true, false_iff, true_iff, iff_true, iff_false, Bool.not_eq_true]; omega) | (simp_all; done) | (simp_all; omega) | grind
    · try dsimp only at hg6
      (iterate 2 refine TL.passG rfl rfl rfl rfl ?_); refine TL.run1 (pure_pick_false rfl rfl) rfl ?_; refine TL.cutEnd (by repeat (first | exact Same.refl _ _ | refine Same.put rfl ?_)) rfl ?_
      first | (simp only [decide_eq_true_eq, Bool.false_eq_true, false_iff, true_iff, iff_true, iff_false, Bool.not_eq_true]; omega) | (simp_all; done) | (simp_all; omega) | grind
  refine TC.condD rfl (fun hc9 => ?_) (fun hc9 => ?_)
  · try dsimp only at hc9
    (iterate 2 refine TC.seq ?_); refine TC.region ?_; refine TL.run1 (pure_move rfl) rfl ?_; refine TL.run1 (pure_sub rfl rfl (mkI64 (by omega) (by omega))) rfl ?_; refine TL.run1 (pure_rem rfl rfl (by omega) (by omega)) rfl ?_; refine TL.run1 (pure_eql rfl rfl) rfl ?_; refine TL.nil' ?_; refine TC.condD rfl (fun hc13 => ?_) (fun hc13 => ?_)
    · try dsimp only at hc13
      refine TC.seq ?_; refine TC.region ?_; refine TL.run1 (pure_assign rfl) rfl ?_; refine TL.nil' ?_; refine TC.ret ?_; (iterate 2 refine then_ret ?_)
      exact ret_int rfl (by unfold classP; rw [if_pos hc9, if_pos hc13])
    · try dsimp only at hc13
      refine TC.skip' ?_; refine TC.seq ?_; refine TC.region ?_; refine TL.run1 (pure_assign rfl) rfl ?_; refine TL.nil' ?_; refine TC.ret ?_; refine then_ret ?_
      exact ret_int rfl (by unfold classP; rw [if_pos hc9, if_neg hc13])
  · try dsimp only at hc9
    refine TC.skip' ?_; (iterate 2 refine TC.seq ?_); refine TC.region ?_; refine TL.run1 (pure_call (marks_spec) .nil Tryd.call83) rfl ?_; refine TL.run1 (pure_move rfl) rfl ?_; refine TL.run1 (pure_call (within_spec marksR p (by rw [marksR_len]; omega)) (.cons rfl (.cons rfl .nil)) Tryd.call82) rfl ?_; refine TL.run1 (pure_assign rfl) rfl ?_; refine TL.nil' ?_; refine TC.seq ?_; refine TC.region ?_; refine TL.run1 (pure_move rfl) rfl ?_; refine TL.run1 (pure_neq rfl rfl) rfl ?_; refine TL.nil' ?_; refine TC.condD rfl (fun hc18 => ?_) (fun hc18 => ?_)
    · try dsimp only at hc18
      refine TC.seq ?_; refine TC.region ?_; refine TL.run1 (pure_move rfl) rfl ?_; refine TL.run1 (pure_assign rfl) rfl ?_; refine TL.nil' ?_; refine TC.ret ?_; refine then_ret ?_
      exact ret_int rfl (by unfold classP; rw [if_neg hc9, class_ref, if_pos hc18])
    · try dsimp only at hc18
      refine TC.skip' ?_; refine TC.seq ?_; refine TC.region ?_; refine TL.run1 (pure_call (letters_spec) .nil Tryd.call84) rfl ?_; refine TL.run1 (pure_move rfl) rfl ?_; refine TL.run1 (pure_call (within_spec lettersR p (by rw [lettersR_len]; omega)) (.cons rfl (.cons rfl .nil)) Tryd.call82) rfl ?_; refine TL.run1 (pure_assign rfl) rfl ?_; refine TL.nil' ?_; refine TC.ret ?_
      exact ret_int rfl (by unfold classP; rw [if_neg hc9, class_ref, if_neg hc18])
end Go.Ob
