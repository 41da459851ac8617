import Derived.Test.YtcmkgijekibdaaaL2
set_option linter.unusedVariables false
set_option linter.unusedSimpArgs false
namespace Go.Ob
open Go.Proofs

theorem hiK : ∀ k : Int, 2 ≤ k → k ≤ 10 → fitsP 1 k = true ∧ checkV k (findK k).high = 0 := by
  have h : ∀ k ∈ List.range 11, 2 ≤ k → fitsP 1 (k : Nat) = true ∧ checkV (k : Nat) (findK (k : Nat)).high = 0 := by decide +kernel
  intro k h1 h2
  have := h k.toNat (List.mem_range.2 (by omega)) (by omega)
  rwa [show ((k.toNat : Nat) : Int) = k by omega] at this
theorem fits1_grp {k : Int} (h : fitsP 1 k = true) : (findK k).group = 1 := by
  have := (fits_key h).2
  rw [groups1 1 rfl] at this
  simpa using this
theorem textV_ok {l : List Sty} {pa ow : List (Int × Int)} (h : textE l pa ow = 0) : textV l pa ow = grp 1 (mergeP (mergeP (effP l (getP pa 20 0)) (effP l (getP ow 1 0))) ow) := by
  unfold textV; rw [if_pos h]
theorem over_own {l : List Sty} {pa ow : List (Int × Int)} (h : textE l pa ow = 0) (hg : Good l) {p : Int × Int} (hp : p ∈ ow) : lookP (textV l pa ow) p.1 = some p.2 := by
  obtain ⟨_, h2, h3, h4, h5⟩ := textE_ok h
  have h6 := hg.effP (namE_find h4)
  have h7 := hg.effP (namE_find h5)
  obtain ⟨h8, h9⟩ := (checkP_iff (by omega) (by omega) ow).1 h3
  rw [textV_ok h, grp_look, if_pos (fits1_grp (h9 p hp).1), (mergeP_spec _ _ (h6.merge h7).1 h8).2, (look_mem_iff h8).2 hp]; rfl
theorem inc_one (p : Int × Int) : Inc (keysP [p]) := by simp [Inc, keysP]
theorem good_one {k : Int} (h1 : 2 ≤ k) (h2 : k ≤ 10) (v : Int) : GoodP [(k, v)] := ⟨inc_one _, fun p hp => by
  rw [List.mem_singleton.1 hp]; exact (fits_key (hiK k h1 h2).1).1⟩
theorem over_next {l : List Sty} {pa ow : List (Int × Int)} (h : textE l pa ow = 0) (hg : Good l) {k : Int} (hk1 : 2 ≤ k) (hk2 : k ≤ 10) :
    textE l pa (mergeP ow [(k, (findK k).high)]) = 0 ∧ textV l pa (mergeP ow [(k, (findK k).high)]) = mergeP (textV l pa ow) [(k, (findK k).high)] := by
  obtain ⟨h1, h2, h3, h4, h5⟩ := textE_ok h
  have h6 := hg.effP (namE_find h4)
  have h7 := hg.effP (namE_find h5)
  obtain ⟨h8, h9⟩ := (checkP_iff (by omega) (by omega) ow).1 h3
  have hi1 := inc_one (k, (findK k).high)
  have hm := mergeP_spec ow [(k, (findK k).high)] h8 hi1
  have hck : checkP 1 (mergeP ow [(k, (findK k).high)]) = 0 := (checkP_iff (by omega) (by omega) _).2 ⟨hm.1, fun p hp => by
    rcases mergeP_mem h8 hi1 hp with hp | hp
    · exact h9 p hp
    · rw [List.mem_singleton.1 hp]; exact hiK k hk1 hk2⟩
  have hget : getP (mergeP ow [(k, (findK k).high)]) 1 0 = getP ow 1 0 := by
    rw [getP_look, hm.2, getP_look, lookP, if_neg (by (try dsimp only); omega), lookP, Option.none_or]
  have hE : textE l pa (mergeP ow [(k, (findK k).high)]) = 0 := by
    unfold textE
    rw [if_neg (fun e => e h1), if_neg (fun e => e h2), if_neg (fun e => e hck), if_neg (fun e => e h4)]
    unfold namE at h5 ⊢
    rw [hget]; exact h5
  refine ⟨hE, ?_⟩
  have hgk : grp 1 [(k, (findK k).high)] = [(k, (findK k).high)] := grp_id fun p hp => by rw [List.mem_singleton.1 hp]; exact fits1_grp (hiK k hk1 hk2).1
  rw [textV_ok hE, textV_ok h, hget, ← mergeP_assoc (h6.merge h7).1 h8 hi1, grp_merge (mergeP_spec _ _ (h6.merge h7).1 h8).1 hi1, hgk]

theorem textV_goodP {l : List Sty} {pa ow : List (Int × Int)} (h : textE l pa ow = 0) (hg : Good l) : GoodP (textV l pa ow) := by
  obtain ⟨_, h2, h3, h4, h5⟩ := textE_ok h
  have h6 := hg.effP (namE_find h4)
  have h7 := hg.effP (namE_find h5)
  have h8 := checkP_good (by omega) (by omega) h3
  rw [textV_ok h]; exact ((h6.merge h7).merge h8).grp 1
set_option maxHeartbeats 1000000 in
set_option maxRecDepth 100000 in
theorem StylesheetOverrides_spec (l : List Sty) (pa ow : List (Int × Int)) (hlal : l.length ≤ 9223372036854775807) : Fun Try.prog 5 [.sl 6 (encSs l), .sl 2 (encP pa), .sl 2 (encP ow)] (.v (.bool true)) := by
  refine Fun.enter (n := 112) (rs := [.tmp 6]) Try.func5 rfl Try.ntmps5 Try.results5 rfl (fun w F => ?_)
  have hkp := encP_len pa
  have hko := encP_len ow
  have hnil : (encP []).length = 0 := rfl
  refine TC.seq ?_; refine TC.region ?_; refine TL.run1 (pure_assign rfl) rfl ?_; refine TL.nil' ?_; refine TC.seq ?_; refine TC.regionCut [18, 19, 20, 21, 22, 23, 24, 25, 26, 27, 28, 29, 30, 31, 32, 33, 34] 34 (¬ SmallP l ∨ 50 < ((pa.length : Nat) : Int) ∨ 50 < ((ow.length : Nat) : Int)) ?_ ?_
  · skip
    refine TL.run1 (pure_call (known_spec) .nil Try.call13) rfl ?_; refine TL.run1 (pure_not rfl) rfl ?_; refine TL.run1 (pure_move rfl) rfl ?_
    first | refine TL.splitP 20 rfl (fun hg20 => ?_) (fun hg20 => ?_) | refine TL.split 20 rfl (fun hg20 => ?_) (fun hg20 => ?_)
    · try dsimp only at hg20
      refine TL.passG rfl rfl rfl rfl ?_; refine TL.passG rfl rfl rfl rfl ?_; refine TL.passG rfl rfl rfl rfl ?_; refine TL.run1 (pure_pick_true rfl rfl) rfl ?_; refine TL.run1 (pure_move rfl) rfl ?_; refine TL.passG rfl rfl rfl rfl ?_; refine TL.passG rfl rfl rfl rfl ?_; refine TL.passG rfl rfl rfl rfl ?_; refine TL.run1 (pure_pick_true rfl rfl) rfl ?_; refine TL.run1 (pure_move rfl) rfl ?_; refine TL.passG rfl rfl rfl rfl ?_; refine TL.passG rfl rfl rfl rfl ?_; refine TL.passG rfl rfl rfl rfl ?_; refine TL.run1 (pure_pick_true rfl rfl) rfl ?_; refine TL.cutEnd (by repeat (first | exact Same.refl _ _ | refine Same.put rfl ?_)) rfl ?_
      first | (simp only [decide_eq_true_eq, Bool.false_eq_true, false_iff, true_iff, iff_true, iff_false, Bool.not_eq_true]; omega) | (simp_all; done) | (simp_all; omega) | grind
    · try dsimp only at hg20
      refine TL.runG rfl rfl (pure_move rfl) rfl ?_; refine TL.runG rfl rfl (pure_call (Small_spec l hlal) (.cons rfl .nil) Try.call14) rfl ?_; refine TL.runG rfl rfl (pure_not rfl) rfl ?_; refine TL.run1 (pure_pick_false rfl rfl) rfl ?_; refine TL.run1 (pure_move rfl) rfl ?_
      first | refine TL.splitP 25 rfl (fun hg25 => ?_) (fun hg25 => ?_) | refine TL.split 25 rfl (fun hg25 => ?_) (fun hg25 => ?_)
      · try dsimp only at hg25
        refine TL.passG rfl rfl rfl rfl ?_; refine TL.passG rfl rfl rfl rfl ?_; refine TL.passG rfl rfl rfl rfl ?_; refine TL.run1 (pure_pick_true rfl rfl) rfl ?_; refine TL.run1 (pure_move rfl) rfl ?_; refine TL.passG rfl rfl rfl rfl ?_; refine TL.passG rfl rfl rfl rfl ?_; refine TL.passG rfl rfl rfl rfl ?_; refine TL.run1 (pure_pick_true rfl rfl) rfl ?_; refine TL.cutEnd (by repeat (first | exact Same.refl _ _ | refine Same.put rfl ?_)) rfl ?_
        first | (simp only [decide_eq_true_eq, Bool.false_eq_true, false_iff, true_iff, iff_true, iff_false, Bool.not_eq_true]; omega) | (simp_all; done) | (simp_all; omega) | grind
      · try dsimp only at hg25
        refine TL.runG rfl rfl (pure_move rfl) rfl ?_
        first | refine TL.runG rfl rfl (pure_len Ty.sl26 rfl) rfl ?_ | refine TL.runG rfl rfl (pure_len_row Ty.sl26 rfl (by repeat (first | exact List.Mem.head _ | apply List.Mem.tail))) rfl ?_ | refine TL.runG rfl rfl (pure_len_nil Ty.sl26 rfl) rfl ?_
        refine TL.runG rfl rfl (pure_gtr rfl rfl) rfl ?_; refine TL.run1 (pure_pick_false rfl rfl) rfl ?_; refine TL.run1 (pure_move rfl) rfl ?_
        first | refine TL.splitP 30 rfl (fun hg30 => ?_) (fun hg30 => ?_) | refine TL.split 30 rfl (fun hg30 => ?_) (fun hg30 => ?_)
        · try dsimp only at hg30
          refine TL.passG rfl rfl rfl rfl ?_; refine TL.passG rfl rfl rfl rfl ?_; refine TL.passG rfl rfl rfl rfl ?_; refine TL.run1 (pure_pick_true rfl rfl) rfl ?_; refine TL.cutEnd (by repeat (first | exact Same.refl _ _ | refine Same.put rfl ?_)) rfl ?_
          first | (simp only [decide_eq_true_eq, Bool.false_eq_true, false_iff, true_iff, iff_true, iff_false, Bool.not_eq_true]; omega) | (simp_all; done) | (simp_all; omega) | grind
        · try dsimp only at hg30
          refine TL.runG rfl rfl (pure_move rfl) rfl ?_
          first | refine TL.runG rfl rfl (pure_len Ty.sl26 rfl) rfl ?_ | refine TL.runG rfl rfl (pure_len_row Ty.sl26 rfl (by repeat (first | exact List.Mem.head _ | apply List.Mem.tail))) rfl ?_ | refine TL.runG rfl rfl (pure_len_nil Ty.sl26 rfl) rfl ?_
          refine TL.runG rfl rfl (pure_gtr rfl rfl) rfl ?_; refine TL.run1 (pure_pick_false rfl rfl) rfl ?_; refine TL.cutEnd (by repeat (first | exact Same.refl _ _ | refine Same.put rfl ?_)) rfl ?_
          first | (simp only [decide_eq_true_eq, Bool.false_eq_true, false_iff, true_iff, iff_true, iff_false, Bool.not_eq_true]; omega) | (simp_all; done) | (simp_all; omega) | grind
  first | refine TC.condD rfl (fun hc34 => ?_) (fun hc34 => ?_) | refine TC.condN rfl (fun hc34 => ?_) (fun hc34 => ?_) | refine TC.cond rfl (fun hc34 => ?_) (fun hc34 => ?_)
  · try dsimp only at hc34
    refine TC.seq ?_; refine TC.region ?_; refine TL.run1 (pure_call (known_spec) .nil Try.call13) rfl ?_; refine TL.run1 (pure_assign rfl) rfl ?_; refine TL.nil' ?_; refine TC.ret ?_; refine then_ret ?_
    exact ret_bool rfl (by first | rfl | simp | simp_all)
  · try dsimp only at hc34
    have hs : SmallP l := Classical.byContradiction fun h => hc34 (.inl h)
    have hpa : pa.length ≤ 1000000 := by omega
    have how : ow.length ≤ 1000000 := by omega
    obtain ⟨hl24, hsm⟩ := hs
    have hl : l.length ≤ 1000000 := by omega
    have hn : ∀ i, i < l.length → (yAt l i).name.size ≤ 1000000000 := fun i hi => by have := (hsm i hi).2; omega
    have hp : ∀ i, i < l.length → (yAt l i).props.length ≤ 1000000 := fun i hi => by have := (hsm i hi).1; omega
    refine TC.skip' ?_; refine TC.seq ?_; refine TC.region ?_; refine TL.run1 (pure_move rfl) rfl ?_; refine TL.run1 (pure_move rfl) rfl ?_; refine TL.run1 (pure_move rfl) rfl ?_
    first | refine TL.run1 (pure_call (SText_spec l pa ow hl hn hp hpa how) (.cons rfl (.cons rfl (.cons rfl .nil))) Try.call19) rfl ?_ | refine TL.run1 (pure_call (SText_spec l pa (mergeP ow [(k, (findK k).high)]) hl hn hp hpa hnx) (.cons rfl (.cons rfl (.cons rfl .nil))) Try.call19) rfl ?_
    refine TL.run1 (pure_move rfl) rfl ?_; refine TL.run1 (pure_extract rfl rfl) rfl ?_; refine TL.run1 (pure_extract rfl rfl) rfl ?_; refine TL.run1 (pure_assign rfl) rfl ?_; refine TL.run1 (pure_assign rfl) rfl ?_; refine TL.nil' ?_; refine TC.seq ?_; refine TC.seq ?_; refine TC.region ?_; refine TL.run1 (pure_move rfl) rfl ?_; refine TL.run1 (pure_neq rfl rfl) rfl ?_; refine TL.nil' ?_
    first | refine TC.condD rfl (fun hc44 => ?_) (fun hc44 => ?_) | refine TC.condN rfl (fun hc44 => ?_) (fun hc44 => ?_) | refine TC.cond rfl (fun hc44 => ?_) (fun hc44 => ?_)
    · try dsimp only at hc44
      rw [textV_bad hc44]
      refine TC.seq ?_; refine TC.region ?_; refine TL.run1 (pure_move rfl) rfl ?_
      first | refine TL.run1 (pure_len Ty.sl26 rfl) rfl ?_ | refine TL.run1 (pure_len_row Ty.sl26 rfl (by repeat (first | exact List.Mem.head _ | apply List.Mem.tail))) rfl ?_ | refine TL.run1 (pure_len_nil Ty.sl26 rfl) rfl ?_
      refine TL.run1 (pure_eql rfl rfl) rfl ?_; refine TL.run1 (pure_assign rfl) rfl ?_; refine TL.nil' ?_; refine TC.ret ?_; refine then_ret ?_
      exact ret_bool rfl (by rw [decide_eq_true]; rfl)
    · try dsimp only at hc44
      have hE : textE l pa ow = 0 := Classical.not_not.1 hc44
      obtain ⟨hE1, _, hE3, _, _⟩ := textE_ok hE
      have hg := checkS_good.1 hE1
      have hq2 := textV_len l pa ow hg
      have hgo := checkP_good (by omega) (by omega) hE3
      have hgt := textV_goodP hE hg
      refine TC.skip' ?_; refine TC.seq ?_; refine TC.seq ?_; refine TC.region ?_; refine TL.run1 (pure_assign rfl) rfl ?_; refine TL.nil' ?_; refine TC.block ?_; refine TC.loopX (X := Nat) (fun i => [(0, .sl 6 (encSs l)), (1, .sl 2 (encP pa)), (2, .sl 2 (encP ow)), (7, .sl 2 (encP (textV l pa ow))), (9, .v (.int .i64 i))]) (fun i => []) (fun i => (i ≤ ow.length)) (fun i => ow.length - i) (0) ⟨by skip; repeat (first | exact Agree.nil | refine Agree.cons rfl ?_), by skip; repeat (first | exact List.nil_sublist _ | exact List.Sublist.refl _ | apply List.Sublist.cons_cons | apply List.Sublist.cons)⟩ ?_ ?_
      · skip
        exact Nat.zero_le _
      intro i
      intro h1
      show TC _ _ _ (Env.of [(0, .sl 6 (encSs l)), (1, .sl 2 (encP pa)), (2, .sl 2 (encP ow)), (7, .sl 2 (encP (textV l pa ow))), (9, .v (.int .i64 i))]) []
      refine TC.seq ?_; refine TC.seq ?_; refine TC.region ?_; refine TL.run1 (pure_move rfl) rfl ?_; refine TL.run1 (pure_move rfl) rfl ?_
      first | refine TL.run1 (pure_len Ty.sl26 rfl) rfl ?_ | refine TL.run1 (pure_len_row Ty.sl26 rfl (by repeat (first | exact List.Mem.head _ | apply List.Mem.tail))) rfl ?_ | refine TL.run1 (pure_len_nil Ty.sl26 rfl) rfl ?_
      refine TL.run1 (pure_lss rfl rfl) rfl ?_; refine TL.nil' ?_
      first | refine TC.condD rfl (fun hc51 => ?_) (fun hc51 => ?_) | refine TC.condN rfl (fun hc51 => ?_) (fun hc51 => ?_) | refine TC.cond rfl (fun hc51 => ?_) (fun hc51 => ?_)
      · try dsimp only at hc51
        refine TC.skip' ?_; refine TC.seq ?_; refine TC.block ?_; refine TC.seq ?_
        have hil : i < ow.length := by omega
        have hrow := encP_getN ow i hil
        have hlk := over_own hE hg (pAt_mem (ps := ow) (i := (i : Int)) (by omega) (by omega))
        have hlh : hasP (textV l pa ow) (pAt ow i).1 = true := by rw [hasP_look, hlk]; rfl
        have hlg : getP (textV l pa ow) (pAt ow i).1 0 = (pAt ow i).2 := by rw [getP_look, hlk]; rfl
        refine TC.region ?_; refine TL.run1 (pure_move rfl) rfl ?_; refine TL.run1 (pure_move rfl) rfl ?_; refine TL.run1 (pure_move rfl) rfl ?_; refine TL.run1 (pure_indexAddr Ty.sl26 rfl rfl (by omega) hrow (List.cons_ne_nil _ _)) rfl ?_
        first | refine TL.run1 (pure_fieldAddr Ty.f38_0 rfl (.zero _) (List.cons_ne_nil _ _)) rfl ?_ | refine TL.run1 (pure_fieldAddr_own Ty.f38_0 rfl) rfl ?_
        first | refine TL.run1 (pure_load1 Ty.one3 rfl) rfl ?_ | refine TL.run1 (pure_load1_own Ty.one3 rfl (by repeat (first | exact List.Mem.head _ | apply List.Mem.tail)) (by repeat (first | exact DropR.zero _ | apply DropR.succ))) rfl ?_
        refine TL.run1 (pure_call (R8Get_spec (textV l pa ow) (pAt ow i).1 hq2) (.cons rfl (.cons rfl .nil)) Try.call20) rfl ?_; refine TL.run1 (pure_move rfl) rfl ?_; refine TL.run1 (pure_extract rfl rfl) rfl ?_; refine TL.run1 (pure_extract rfl rfl) rfl ?_; refine TL.run1 (pure_assign rfl) rfl ?_; refine TL.run1 (pure_assign rfl) rfl ?_; refine TL.nil' ?_
        rw [hlh, hlg]
        refine TC.regionCut [64, 65, 66, 67, 68, 69, 70, 71, 72, 73, 74] 74 (False) ?_ ?_
        · skip
          refine TL.run1 (pure_move rfl) rfl ?_; refine TL.run1 (pure_not rfl) rfl ?_; refine TL.run1 (pure_move rfl) rfl ?_
          first | refine TL.splitP 66 rfl (fun hg66 => ?_) (fun hg66 => ?_) | refine TL.split 66 rfl (fun hg66 => ?_) (fun hg66 => ?_)
          · try dsimp only at hg66
            refine TL.passG rfl rfl rfl rfl ?_; refine TL.passG rfl rfl rfl rfl ?_; refine TL.passG rfl rfl rfl rfl ?_; refine TL.passG rfl rfl rfl rfl ?_; refine TL.passG rfl rfl rfl rfl ?_; refine TL.passG rfl rfl rfl rfl ?_; refine TL.passG rfl rfl rfl rfl ?_; refine TL.run1 (pure_pick_true rfl rfl) rfl ?_; refine TL.cutEnd (by repeat (first | exact Same.refl _ _ | refine Same.put rfl ?_)) rfl ?_
            first | (simp_all; done) | (simp_all; omega) | grind
          · try dsimp only at hg66
            refine TL.runG rfl rfl (pure_move rfl) rfl ?_; refine TL.runG rfl rfl (pure_move rfl) rfl ?_; refine TL.runG rfl rfl (pure_move rfl) rfl ?_; refine TL.runG rfl rfl (pure_indexAddr Ty.sl26 rfl rfl (by omega) hrow (List.cons_ne_nil _ _)) rfl ?_
            first | refine TL.runG rfl rfl (pure_fieldAddr Ty.f38_1 rfl (.succ (.zero _)) (List.cons_ne_nil _ _)) rfl ?_ | refine TL.runG rfl rfl (pure_fieldAddr_own Ty.f38_1 rfl) rfl ?_
            first | refine TL.runG rfl rfl (pure_load1 Ty.one3 rfl) rfl ?_ | refine TL.runG rfl rfl (pure_load1_own Ty.one3 rfl (by repeat (first | exact List.Mem.head _ | apply List.Mem.tail)) (by repeat (first | exact DropR.zero _ | apply DropR.succ))) rfl ?_
            refine TL.runG rfl rfl (pure_neq rfl rfl) rfl ?_; refine TL.run1 (pure_pick_false rfl rfl) rfl ?_; refine TL.cutEnd (by repeat (first | exact Same.refl _ _ | refine Same.put rfl ?_)) rfl ?_
            first | (simp_all; done) | (simp_all; omega) | grind
        first | refine TC.condD rfl (fun hc74 => ?_) (fun hc74 => ?_) | refine TC.condN rfl (fun hc74 => ?_) (fun hc74 => ?_) | refine TC.cond rfl (fun hc74 => ?_) (fun hc74 => ?_)
        · try dsimp only at hc74
          all_goals exact absurd hc74 id
        · try dsimp only at hc74
          refine TC.skip ?_; refine block_normal ?_; refine then_normal ?_; refine TC.region ?_; refine TL.run1 (pure_move rfl) rfl ?_; refine TL.run1 (pure_add rfl rfl (mkI64 (by omega) (by omega))) rfl ?_; refine TL.run1 (pure_assign rfl) rfl ?_; refine TL.nil ?_
          refine loop_next (i + 1) ⟨by ((try dsimp only); rw [show (((i + 1 : Nat)) : Int) = (i : Int) + 1 by omega]; repeat (first | exact Agree.nil | refine Agree.cons rfl ?_)), by repeat (first | exact List.nil_sublist _ | exact List.Sublist.refl _ | apply List.Sublist.cons_cons | apply List.Sublist.cons)⟩ (show i + 1 ≤ _ by omega) (by omega)
      · try dsimp only at hc51
        refine TC.exit ?_; refine then_exit ?_; refine loop_exit ?_; refine block_here ?_; refine then_normal ?_; refine TC.seq ?_; refine TC.seq ?_; refine TC.region ?_; refine TL.run1 (pure_assign rfl) rfl ?_; refine TL.nil' ?_; refine TC.block ?_; refine TC.loopX (X := Int) (fun k => [(0, .sl 6 (encSs l)), (1, .sl 2 (encP pa)), (2, .sl 2 (encP ow)), (7, .sl 2 (encP (textV l pa ow))), (12, .v (.int .i64 k))]) (fun k => []) (fun k => (2 ≤ k) ∧ (k ≤ 11)) (fun k => (11 - k).toNat) (2) ⟨by skip; repeat (first | exact Agree.nil | refine Agree.cons rfl ?_), by skip; repeat (first | exact List.nil_sublist _ | exact List.Sublist.refl _ | apply List.Sublist.cons_cons | apply List.Sublist.cons)⟩ ?_ ?_
        · skip
          exact ⟨by omega, by omega⟩
        intro k
        rintro ⟨hk1, hk2⟩
        show TC _ _ _ (Env.of [(0, .sl 6 (encSs l)), (1, .sl 2 (encP pa)), (2, .sl 2 (encP ow)), (7, .sl 2 (encP (textV l pa ow))), (12, .v (.int .i64 k))]) []
        refine TC.seq ?_; refine TC.seq ?_; refine TC.region ?_; refine TL.run1 (pure_move rfl) rfl ?_; refine TL.run1 (pure_leq rfl rfl) rfl ?_; refine TL.nil' ?_
        first | refine TC.condD rfl (fun hc76 => ?_) (fun hc76 => ?_) | refine TC.condN rfl (fun hc76 => ?_) (fun hc76 => ?_) | refine TC.cond rfl (fun hc76 => ?_) (fun hc76 => ?_)
        · try dsimp only at hc76
          refine TC.skip' ?_; refine TC.seq ?_; refine TC.block ?_; refine TC.seq ?_
          obtain ⟨hn1, hn2⟩ := over_next hE hg hk1 (show k ≤ 10 by omega)
          have hnx : (mergeP ow [(k, (findK k).high)]).length ≤ 1000000 := by (have := (hgo.merge (good_one hk1 (by omega) (findK k).high)).len; omega)
          have hq3 : (mergeP (textV l pa ow) [(k, (findK k).high)]).length ≤ 1000000 := by (have := (hgt.merge (good_one hk1 (by omega) (findK k).high)).len; omega)
          refine TC.region ?_; refine TL.run1 (pure_move rfl) rfl ?_; refine TL.run1 (pure_call (Of_spec k) (.cons rfl .nil) Try.call21) rfl ?_; refine TL.run1 (pure_move rfl) rfl ?_; refine TL.run1 (pure_extract rfl rfl) rfl ?_; refine TL.run1 (pure_extract rfl rfl) rfl ?_
          refine TL.alloc Ty.zero40 rfl (fun g13 => ?_)
          refine TL.store rfl rfl (.agg _) Try.sizeOf40 rfl (by repeat (first | exact UpdR.here _ | apply UpdR.there)) (by repeat (first | exact PutR.nil _ | apply PutR.here | apply PutR.skip)) ?_; refine TL.run1 (pure_assign rfl) rfl ?_; refine TL.nil' ?_; refine TC.seq ?_; refine TC.region ?_; refine TL.run1 (pure_move rfl) rfl ?_; refine TL.run1 (pure_move rfl) rfl ?_
          first | refine TL.run1 (pure_fieldAddr Ty.f40_3 rfl (.succ (.succ (.succ (.zero _)))) (List.cons_ne_nil _ _)) rfl ?_ | refine TL.run1 (pure_fieldAddr_own Ty.f40_3 rfl) rfl ?_
          first | refine TL.run1 (pure_load1 Ty.one3 rfl) rfl ?_ | refine TL.run1 (pure_load1_own Ty.one3 rfl (by repeat (first | exact List.Mem.head _ | apply List.Mem.tail)) (by repeat (first | exact DropR.zero _ | apply DropR.succ))) rfl ?_
          refine TL.run1 (pure_build Ty.pl38 Ty.zero38 (.cons rfl rfl (.one rfl) rfl (.here (.nil _)) (.cons rfl rfl (.one rfl) rfl (.skip (.here (.nil _))) (.nil _)))) rfl ?_; refine TL.run1 (pure_buildSlice (xs := [.tmp 88]) Ty.app26 (by decide) rfl rfl (.cons rfl (.agg _) rfl .nil)) rfl ?_
          first | refine TL.run1 (pure_call (R8Mrg ow [(k, (findK k).high)] hgo (good_one hk1 (by omega) _)) (.cons rfl (.cons rfl .nil)) Try.call22) rfl ?_ | refine TL.run1 (pure_call (R8Mrg (textV l pa ow) [(k, (findK k).high)] hgt (good_one hk1 (by omega) _)) (.cons rfl (.cons rfl .nil)) Try.call22) rfl ?_
          refine TL.run1 (pure_assign rfl) rfl ?_; refine TL.nil' ?_; refine TC.seq ?_; refine TC.region ?_; refine TL.run1 (pure_move rfl) rfl ?_; refine TL.run1 (pure_move rfl) rfl ?_; refine TL.run1 (pure_move rfl) rfl ?_
          first | refine TL.run1 (pure_call (SText_spec l pa ow hl hn hp hpa how) (.cons rfl (.cons rfl (.cons rfl .nil))) Try.call19) rfl ?_ | refine TL.run1 (pure_call (SText_spec l pa (mergeP ow [(k, (findK k).high)]) hl hn hp hpa hnx) (.cons rfl (.cons rfl (.cons rfl .nil))) Try.call19) rfl ?_
          refine TL.run1 (pure_move rfl) rfl ?_; refine TL.run1 (pure_extract rfl rfl) rfl ?_; refine TL.run1 (pure_extract rfl rfl) rfl ?_; refine TL.run1 (pure_assign rfl) rfl ?_; refine TL.run1 (pure_assign rfl) rfl ?_; refine TL.nil' ?_
          rw [hn1, hn2]
          refine TC.regionCut [98, 99, 100, 101, 102, 103, 104, 105, 106, 107, 108, 109, 110, 111] 111 (False) ?_ ?_
          · skip
            refine TL.run1 (pure_move rfl) rfl ?_; refine TL.run1 (pure_neq rfl rfl) rfl ?_; refine TL.run1 (pure_move rfl) rfl ?_
            first | refine TL.splitP 100 rfl (fun hg100 => ?_) (fun hg100 => ?_) | refine TL.split 100 rfl (fun hg100 => ?_) (fun hg100 => ?_)
            · try dsimp only at hg100
              refine TL.passG rfl rfl rfl rfl ?_; refine TL.passG rfl rfl rfl rfl ?_; refine TL.passG rfl rfl rfl rfl ?_; refine TL.passG rfl rfl rfl rfl ?_; refine TL.passG rfl rfl rfl rfl ?_; refine TL.passG rfl rfl rfl rfl ?_; refine TL.passG rfl rfl rfl rfl ?_; refine TL.passG rfl rfl rfl rfl ?_; refine TL.passG rfl rfl rfl rfl ?_; refine TL.passG rfl rfl rfl rfl ?_; refine TL.run1 (pure_pick_true rfl rfl) rfl ?_; refine TL.cutEnd (by repeat (first | exact Same.refl _ _ | refine Same.put rfl ?_)) rfl ?_
              first | (simp; done) | (simp_all; done) | (simp_all; omega) | grind
            · try dsimp only at hg100
              refine TL.runG rfl rfl (pure_move rfl) rfl ?_; refine TL.runG rfl rfl (pure_move rfl) rfl ?_; refine TL.runG rfl rfl (pure_move rfl) rfl ?_
              first | refine TL.runG rfl rfl (pure_fieldAddr Ty.f40_3 rfl (.succ (.succ (.succ (.zero _)))) (List.cons_ne_nil _ _)) rfl ?_ | refine TL.runG rfl rfl (pure_fieldAddr_own Ty.f40_3 rfl) rfl ?_
              first | refine TL.runG rfl rfl (pure_load1 Ty.one3 rfl) rfl ?_ | refine TL.runG rfl rfl (pure_load1_own Ty.one3 rfl (by repeat (first | exact List.Mem.head _ | apply List.Mem.tail)) (by repeat (first | exact DropR.zero _ | apply DropR.succ))) rfl ?_
              refine TL.runG rfl rfl (pure_build Ty.pl38 Ty.zero38 (.cons rfl rfl (.one rfl) rfl (.here (.nil _)) (.cons rfl rfl (.one rfl) rfl (.skip (.here (.nil _))) (.nil _)))) rfl ?_; refine TL.runG rfl rfl (pure_buildSlice (xs := [.tmp 106]) Ty.app26 (by decide) rfl rfl (.cons rfl (.agg _) rfl .nil)) rfl ?_
              first | refine TL.runG rfl rfl (pure_call (R8Mrg ow [(k, (findK k).high)] hgo (good_one hk1 (by omega) _)) (.cons rfl (.cons rfl .nil)) Try.call22) rfl ?_ | refine TL.runG rfl rfl (pure_call (R8Mrg (textV l pa ow) [(k, (findK k).high)] hgt (good_one hk1 (by omega) _)) (.cons rfl (.cons rfl .nil)) Try.call22) rfl ?_
              refine TL.runG rfl rfl (pure_call (EqualProps_spec (mergeP (textV l pa ow) [(k, (findK k).high)]) (mergeP (textV l pa ow) [(k, (findK k).high)]) hq3) (.cons rfl (.cons rfl .nil)) Try.call23) rfl ?_; refine TL.runG rfl rfl (pure_not rfl) rfl ?_; refine TL.run1 (pure_pick_false rfl rfl) rfl ?_; refine TL.cutEnd (by repeat (first | exact Same.refl _ _ | refine Same.put rfl ?_)) rfl ?_
              first | (simp; done) | (simp_all; done) | (simp_all; omega) | grind
          first | refine TC.condD rfl (fun hc111 => ?_) (fun hc111 => ?_) | refine TC.condN rfl (fun hc111 => ?_) (fun hc111 => ?_) | refine TC.cond rfl (fun hc111 => ?_) (fun hc111 => ?_)
          · try dsimp only at hc111
            all_goals exact absurd hc111 id
          · try dsimp only at hc111
            refine TC.skip ?_; refine block_normal ?_; refine then_normal ?_; refine TC.region ?_; refine TL.run1 (pure_move rfl) rfl ?_; refine TL.run1 (pure_add rfl rfl (mkI64 (by omega) (by omega))) rfl ?_; refine TL.run1 (pure_assign rfl) rfl ?_; refine TL.nil ?_
            refine loop_next (k + 1) ⟨by repeat (first | exact Agree.nil | refine Agree.cons rfl ?_), by repeat (first | exact List.nil_sublist _ | exact List.Sublist.refl _ | apply List.Sublist.cons_cons | apply List.Sublist.cons)⟩ ⟨by omega, by omega⟩ (by omega)
        · try dsimp only at hc76
          refine TC.exit ?_; refine then_exit ?_; refine loop_exit ?_; refine block_here ?_; refine then_normal ?_; refine TC.seq ?_; refine TC.region ?_; refine TL.run1 (pure_assign rfl) rfl ?_; refine TL.nil' ?_; refine TC.ret ?_
          exact ret_bool rfl (by first | rfl | simp | simp_all)
end Go.Ob
