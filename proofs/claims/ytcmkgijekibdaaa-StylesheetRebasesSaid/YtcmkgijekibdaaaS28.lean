import Derived.Test.YtcmkgijekibdaaaS27
set_option linter.unusedVariables false
set_option linter.unusedSimpArgs false
namespace Go.Ob
open Go.Proofs

theorem tK_std {n : Nat} (h : n < tableK.length) : (eAt tableK (n : Int)).std = (findK (tK n)).std := by
  rw [(findK_at (tK n) (n : Int) (by omega) (by rw [tableK_len] at h; omega) rfl).2]
theorem hasP_drop8 (e : List (Int × Int)) (k : Int) : hasP e k = (lookP e k).isSome := hasP_look e k

theorem rbA_own {e b : List (Int × Int)} {k : Int} (h1 : ¬ lookP e k = none) (h2 : ¬ lookP e k = lookP b k) : rbA e b k = [(k, getP e k 0)] := by
  obtain ⟨v, hv⟩ := Option.ne_none_iff_exists'.1 h1
  rw [hv] at h2
  unfold rbA rebO
  rw [getP_look, hv]
  simp only [Option.getD_some]
  rw [if_neg (fun h => h2 h.symm)]
theorem rbA_std {e b : List (Int × Int)} {k : Int} (h1 : lookP e k = none) (h2 : ¬ lookP b k = none) (h3 : ¬ lookP b k = some (findK k).std) : rbA e b k = [(k, (findK k).std)] := by
  obtain ⟨w, hw⟩ := Option.ne_none_iff_exists'.1 h2
  rw [hw] at h3
  unfold rbA rebO
  rw [h1, hw]
  simp only []
  rw [if_neg (fun h => h3 (by rw [h]))]
theorem rbA_no {e b : List (Int × Int)} {k : Int} (h1 : ¬ (¬ lookP e k = none ∧ ¬ lookP e k = lookP b k)) (h2 : ¬ (lookP e k = none ∧ ¬ lookP b k = none ∧ ¬ lookP b k = some (findK k).std)) : rbA e b k = [] := by
  unfold rbA rebO
  cases he : lookP e k with
  | some v =>
    have hb : lookP b k = some v := Classical.byContradiction fun h => h1 ⟨by rw [he]; simp, by rw [he]; exact fun e => h e.symm⟩
    simp [hb]
  | none =>
    cases hb : lookP b k with
    | none => simp
    | some w =>
      have hw : w = (findK k).std := Classical.byContradiction fun h => h2 ⟨he, by rw [hb]; simp, by rw [hb]; simpa using h⟩
      simp [hw]
set_option maxHeartbeats 2000000 in
set_option maxRecDepth 100000 in
theorem RRebase_spec (l : List Sty) (id base : Int) (hg : Good l) : Fun Try.prog 42 [.sl 6 (encSs l), .v (.int .i64 id), .v (.int .i64 base)] (.tup [.sl 6 (encSs (rebV l id base)), .v (.int .i64 (rebE l id base))]) := by
  refine Fun.enterF (n := 151) (rs := [.tmp 6, .tmp 7]) Try.func42 rfl Try.ntmps42 Try.results42 rfl (fun w F => ?_)
  have hk := encSs_len l
  have hl : l.length ≤ 1000000 := by have := hg.len; omega
  have hkt := encK_len tableK
  have htl := tableK_len
  have hfr := findS_range l id
  have hlen := hg.len
  refine TC.seq ?_; refine TC.region ?_; (iterate 2 refine TL.run1 (pure_assign rfl) rfl ?_); refine TL.nil' ?_; refine TC.seq ?_; refine TC.region ?_; (iterate 2 refine TL.run1 (pure_move rfl) rfl ?_); refine TL.run1 (pure_call (RFind_spec l id hl) (.cons rfl (.cons rfl .nil)) Try.call26) rfl ?_; refine TL.run1 (pure_assign rfl) rfl ?_; refine TL.nil' ?_; (iterate 2 refine TC.seq ?_); refine TC.region ?_; refine TL.run1 (pure_move rfl) rfl ?_; refine TL.run1 (pure_lss rfl rfl) rfl ?_; refine TL.nil' ?_; refine TC.condD rfl (fun hc25 => ?_) (fun hc25 => ?_)
  · try dsimp only at hc25
    have hF : foundE l id = 8 := by (unfold foundE; rw [if_neg (fun h => h (checkS_good.2 hg)), if_neg (by omega)])
    refine TC.seq ?_; refine TC.region ?_; refine TL.run1 (pure_assign rfl) rfl ?_; refine TL.le 6 rfl (Le.nil 6) ?_; refine TL.run1 (pure_assign rfl) rfl ?_; refine TL.nil' ?_; refine TC.ret ?_; refine then_ret ?_
    have hE : rebE l id base = 8 := by (unfold rebE; rw [hF, if_pos (by decide)])
    rw [rebV_bad (by rw [hE]; decide), hE]
    exact retF2 (.inl rfl) rfl rfl (.tupL (.cons (.same _) (.cons (.same _) .nil)))
  · try dsimp only at hc25
    have hfd : 0 ≤ findS l id := by omega
    have hF := foundE_is hg hfd
    have hx := encSs_getN l (findS l id).toNat (by omega)
    have hx1 : ∀ c, ((encSs l).set (findS l id).toNat c)[(findS l id).toNat]? = some c := fun c => by rw [List.getElem?_set_self]; omega
    have hrw := encSs_get l (findS l id).toNat (by omega)
    rw [show (((findS l id).toNat : Nat) : Int) = findS l id by omega] at hrw
    refine TC.skip' ?_; refine TC.seq ?_; refine TC.regionCut [26, 27, 28, 29, 30, 31, 32, 33, 34, 35, 36, 37, 38] 38 (base ≠ 0 ∧ ¬ isP l (yF l id).kind base) ?_ ?_
    · skip
      refine TL.run1 (pure_move rfl) rfl ?_; refine TL.run1 (pure_neq rfl rfl) rfl ?_; refine TL.run1 (pure_move rfl) rfl ?_; refine TL.splitP 28 rfl (fun hg28 => ?_) (fun hg28 => ?_)
      · try dsimp only at hg28
        (iterate 3 refine TL.runG rfl rfl (pure_move rfl) rfl ?_); refine TL.runG rfl rfl (pure_indexAddr Ty.sl22 rfl rfl (by omega) hrw (List.cons_ne_nil _ _)) rfl ?_; refine TL.runG rfl rfl (pure_fieldAddr Ty.f28_1 rfl (.succ (.zero _)) (List.cons_ne_nil _ _)) rfl ?_; refine TL.runG rfl rfl (pure_load1 Ty.one3 rfl) rfl ?_; refine TL.runG rfl rfl (pure_move rfl) rfl ?_; refine TL.runG rfl rfl (pure_call (RIs_spec l (yF l id).kind base hl) (.cons rfl (.cons rfl (.cons rfl .nil))) Try.call48) rfl ?_; refine TL.runG rfl rfl (pure_not rfl) rfl ?_; refine TL.run1 (pure_pick_true rfl rfl) rfl ?_; refine TL.cutEnd (by repeat (first | exact Same.refl _ _ | refine Same.put rfl ?_)) rfl ?_
        first | (simp_all; done) | grind
      · try dsimp only at hg28
        (iterate 9 refine TL.passG rfl rfl rfl rfl ?_); refine TL.run1 (pure_pick_false rfl rfl) rfl ?_; refine TL.cutEnd (by repeat (first | exact Same.refl _ _ | refine Same.put rfl ?_)) rfl ?_
        first | (simp_all; done) | grind
    refine TC.condD rfl (fun hc38 => ?_) (fun hc38 => ?_)
    · try dsimp only at hc38
      refine TC.seq ?_; refine TC.region ?_; refine TL.run1 (pure_assign rfl) rfl ?_; refine TL.le 6 rfl (Le.nil 6) ?_; refine TL.run1 (pure_assign rfl) rfl ?_; refine TL.nil' ?_; refine TC.ret ?_; refine then_ret ?_
      have hE : rebE l id base = 25 := by (unfold rebE; rw [hF, if_neg (by decide), if_pos hc38])
      rw [rebV_bad (by rw [hE]; decide), hE]
      exact retF2 (.inl rfl) rfl rfl (.tupL (.cons (.same _) (.cons (.same _) .nil)))
    · try dsimp only at hc38
      have hb0 : base = 0 ∨ 0 ≤ findS l base := Classical.byContradiction fun h => hc38 ⟨fun e => h (.inl e), fun e => h (.inr e.1)⟩
      obtain ⟨hch, hcl⟩ := hg.chain hb0
      have hcn : chN l base ≤ 1000000 := by omega
      have hcil := chI_len l base (chN l base)
      have hcie := encI_len (chI l base (chN l base))
      have heg := hg.effP (.inr hfd)
      have hbg := hg.effP hb0
      have hel := heg.len
      have hbl := hbg.len
      refine TC.skip' ?_; (iterate 2 refine TC.seq ?_); refine TC.region ?_; refine TL.run1 (pure_move rfl) rfl ?_; refine TL.run1 (pure_neq rfl rfl) rfl ?_; refine TL.nil' ?_; refine TC.condD rfl (fun hc40 => ?_) (fun hc40 => ?_)
      · try dsimp only at hc40
        refine TC.seq ?_; refine TC.region ?_; (iterate 2 refine TL.run1 (pure_move rfl) rfl ?_); refine TL.run1 (pure_call (R8Chain_spec l base (chN l base) hch hcn hl) (.cons rfl (.cons rfl .nil)) Try.call38) rfl ?_; refine TL.run1 (pure_assign rfl) rfl ?_; refine TL.nil' ?_; refine TC.seq ?_; refine TC.region ?_; refine TL.run1 (pure_assign rfl) rfl ?_; refine TL.nil' ?_; refine TC.block ?_; refine TC.loopX (X := Nat) (fun k => [(0, .sl 6 (encSs l)), (1, .v (.int .i64 id)), (2, .v (.int .i64 base)), (8, .v (.int .i64 (findS l id))), (9, .sl 1 (encI (chI l base (chN l base)))), (10, .v (.int .i64 k))]) (fun k => []) (fun k => (k ≤ chN l base) ∧ (∀ j, j < k → sq l base j ≠ id)) (fun k => chN l base - k) (0) ⟨by skip; repeat (first | exact Agree.nil | refine Agree.cons rfl ?_), by skip; repeat (first | exact List.nil_sublist _ | exact List.Sublist.refl _ | apply List.Sublist.cons_cons | apply List.Sublist.cons)⟩ ?_ ?_
        · skip
          exact ⟨Nat.zero_le _, fun j h => by omega⟩
        intro k
        rintro ⟨h1, h2⟩
        show TC _ _ _ (Env.of [(0, .sl 6 (encSs l)), (1, .v (.int .i64 id)), (2, .v (.int .i64 base)), (8, .v (.int .i64 (findS l id))), (9, .sl 1 (encI (chI l base (chN l base)))), (10, .v (.int .i64 k))]) []
        (iterate 2 refine TC.seq ?_); refine TC.region ?_; (iterate 2 refine TL.run1 (pure_move rfl) rfl ?_); refine TL.run1 (pure_len Ty.sl50 rfl) rfl ?_; refine TL.run1 (pure_lss rfl rfl) rfl ?_; refine TL.nil' ?_; refine TC.condD rfl (fun hc47 => ?_) (fun hc47 => ?_)
        · try dsimp only at hc47
          refine TC.skip' ?_; refine TC.seq ?_; refine TC.block ?_; refine TC.seq ?_
          have hrk := chI_get l base (chN l base) k (by omega)
          refine TC.region ?_; (iterate 2 refine TL.run1 (pure_move rfl) rfl ?_); refine TL.run1 (pure_indexAddr Ty.sl50 rfl rfl (by omega) hrk (List.cons_ne_nil _ _)) rfl ?_; refine TL.run1 (pure_load1 Ty.one3 rfl) rfl ?_; refine TL.run1 (pure_move rfl) rfl ?_; refine TL.run1 (pure_eql rfl rfl) rfl ?_; refine TL.nil' ?_; refine TC.condD rfl (fun hc55 => ?_) (fun hc55 => ?_)
          · try dsimp only at hc55
            have hon : onP l base id := ⟨k, by omega, hc55⟩
            refine TC.seq ?_; refine TC.region ?_; refine TL.run1 (pure_assign rfl) rfl ?_; refine TL.le 6 rfl (Le.nil 6) ?_; refine TL.run1 (pure_assign rfl) rfl ?_; refine TL.nil' ?_; refine TC.ret ?_; refine block_ret ?_; refine then_ret ?_; refine loop_ret ?_; refine block_ret ?_; refine then_ret ?_
            have hE : rebE l id base = 16 := by (unfold rebE; rw [hF, if_neg (by decide), if_neg hc38, if_pos hon])
            rw [rebV_bad (by rw [hE]; decide), hE]
            exact retF2 (.inl rfl) rfl rfl (.tupL (.cons (.same _) (.cons (.same _) .nil)))
          · try dsimp only at hc55
            refine TC.skip ?_; refine block_normal ?_; refine then_normal ?_; refine TC.region ?_; refine TL.run1 (pure_move rfl) rfl ?_; refine TL.run1 (pure_add rfl rfl (mkI64 (by omega) (by omega))) rfl ?_; refine TL.run1 (pure_assign rfl) rfl ?_; refine TL.nil ?_; refine loop_next (k + 1) ⟨by ((try dsimp only); rw [show (((k + 1 : Nat)) : Int) = (k : Int) + 1 by omega]; repeat (first | exact Agree.nil | refine Agree.cons rfl ?_)), by repeat (first | exact List.nil_sublist _ | exact List.Sublist.refl _ | apply List.Sublist.cons_cons | apply List.Sublist.cons)⟩ ⟨by omega, fun j hj => by rcases Nat.lt_or_eq_of_le (Nat.le_of_lt_succ hj) with h | h; exact h2 j h; subst h; exact hc55⟩ (by omega)
        · try dsimp only at hc47
          have hke : k = chN l base := by omega
          subst hke
          have hoff : ¬ onP l base id := fun ⟨j, hj, h⟩ => h2 j hj h
          refine TC.exit ?_; refine then_exit ?_; refine loop_exit ?_; refine block_here ?_; refine then_normal ?_; refine TC.seq ?_; refine TC.region ?_; (iterate 2 refine TL.run1 (pure_move rfl) rfl ?_); refine TL.run1 (pure_call (R8Eff l id hg (.inr hfd)) (.cons rfl (.cons rfl .nil)) Try.call33) rfl ?_; (iterate 2 refine TL.run1 (pure_move rfl) rfl ?_); refine TL.run1 (pure_call (R8Eff l base hg hb0) (.cons rfl (.cons rfl .nil)) Try.call33) rfl ?_; (iterate 2 refine TL.run1 (pure_assign rfl) rfl ?_); refine TL.nil' ?_; refine TC.seq ?_; refine TC.region ?_; refine TL.run1 (pure_assign rfl) rfl ?_; refine TL.nil' ?_; refine TC.seq ?_; refine TC.region ?_; refine TL.run1 (pure_call (Table_spec) .nil Try.call43) rfl ?_; refine TL.run1 (pure_assign rfl) rfl ?_; refine TL.nil' ?_; (iterate 2 refine TC.seq ?_); refine TC.nilrow 38 2 ?_; refine TC.region ?_; refine TL.run1 (pure_assign rfl) rfl ?_; refine TL.nil' ?_; refine TC.block ?_; refine TC.loopX (X := Nat × Value) (fun (n, v) => [(0, .sl 6 (encSs l)), (2, .v (.int .i64 base)), (8, .v (.int .i64 (findS l id))), (11, .sl 2 (encP (effP l id))), (12, .sl 2 (encP (effP l base))), (13, .v v), (14, .sl 6 (encK tableK)), (15, .v (.int .i64 n))]) (fun (n, v) => [.row v 38 2 (encP (rbTo (effP l id) (effP l base) n))]) (fun (n, v) => (n ≤ tableK.length)) (fun (n, v) => tableK.length - n) (0, .slice none 0 0) ⟨by skip; repeat (first | exact Agree.nil | refine Agree.cons rfl ?_), by skip; repeat (first | exact List.nil_sublist _ | exact List.Sublist.refl _ | apply List.Sublist.cons_cons | apply List.Sublist.cons)⟩ ?_ ?_
          · skip
            exact Nat.zero_le _
          rintro ⟨n, v⟩
          intro h1
          show TC _ _ _ (Env.of [(0, .sl 6 (encSs l)), (2, .v (.int .i64 base)), (8, .v (.int .i64 (findS l id))), (11, .sl 2 (encP (effP l id))), (12, .sl 2 (encP (effP l base))), (13, .v v), (14, .sl 6 (encK tableK)), (15, .v (.int .i64 n))]) [.row v 38 2 (encP (rbTo (effP l id) (effP l base) n))]
          (iterate 2 refine TC.seq ?_); refine TC.region ?_; (iterate 2 refine TL.run1 (pure_move rfl) rfl ?_); refine TL.run1 (pure_len Ty.sl68 rfl) rfl ?_; refine TL.run1 (pure_lss rfl rfl) rfl ?_; refine TL.nil' ?_; refine TC.condD rfl (fun hc66 => ?_) (fun hc66 => ?_)
          · try dsimp only at hc66
            refine TC.skip' ?_; refine TC.seq ?_; refine TC.block ?_; refine TC.seq ?_
            have hnl : n < tableK.length := by omega
            have hrow := encK_getN n hnl
            have hml := rbTo_len (effP l id) (effP l base) n
            have hme := encP_len (rbTo (effP l id) (effP l base) n)
            refine TC.region ?_; (iterate 3 refine TL.run1 (pure_move rfl) rfl ?_); refine TL.run1 (pure_indexAddr Ty.sl68 rfl rfl (by omega) hrow (List.cons_ne_nil _ _)) rfl ?_; refine TL.run1 (pure_fieldAddr Ty.f40_0 rfl (.zero _) (List.cons_ne_nil _ _)) rfl ?_; refine TL.run1 (pure_load1 Ty.one3 rfl) rfl ?_; refine TL.run1 (pure_call (R8Get_spec (effP l id) (tK n) (by omega)) (.cons rfl (.cons rfl .nil)) Try.call20) rfl ?_; refine TL.run1 (pure_move rfl) rfl ?_; (iterate 2 refine TL.run1 (pure_extract rfl rfl) rfl ?_); (iterate 2 refine TL.run1 (pure_assign rfl) rfl ?_); refine TL.nil' ?_; refine TC.seq ?_; refine TC.region ?_; (iterate 3 refine TL.run1 (pure_move rfl) rfl ?_); refine TL.run1 (pure_indexAddr Ty.sl68 rfl rfl (by omega) hrow (List.cons_ne_nil _ _)) rfl ?_; refine TL.run1 (pure_fieldAddr Ty.f40_0 rfl (.zero _) (List.cons_ne_nil _ _)) rfl ?_; refine TL.run1 (pure_load1 Ty.one3 rfl) rfl ?_; refine TL.run1 (pure_call (R8Get_spec (effP l base) (tK n) (by omega)) (.cons rfl (.cons rfl .nil)) Try.call20) rfl ?_; refine TL.run1 (pure_move rfl) rfl ?_; (iterate 2 refine TL.run1 (pure_extract rfl rfl) rfl ?_); (iterate 2 refine TL.run1 (pure_assign rfl) rfl ?_); refine TL.nil' ?_; refine TC.seq ?_
            have hg1 := getP_look (effP l id) (tK n) 0
            have hg2 := getP_look (effP l base) (tK n) 0
            have hh1 := hasP_look (effP l id) (tK n)
            have hh2 := hasP_look (effP l base) (tK n)
            refine TC.regionCut [89, 90, 91, 92, 93, 94, 95, 96, 97, 98] 98 (¬ lookP (effP l id) (tK n) = none ∧ ¬ lookP (effP l id) (tK n) = lookP (effP l base) (tK n)) ?_ ?_
            · skip
              (iterate 2 refine TL.run1 (pure_move rfl) rfl ?_); refine TL.split 90 rfl (fun hg90 => ?_) (fun hg90 => ?_)
              · try dsimp only at hg90
                refine TL.runG rfl rfl (pure_move rfl) rfl ?_; refine TL.runG rfl rfl (pure_not rfl) rfl ?_; refine TL.runG rfl rfl (pure_move rfl) rfl ?_; refine TL.split 93 rfl (fun hg93 => ?_) (fun hg93 => ?_)
                · try dsimp only at hg93
                  (iterate 3 refine TL.passG rfl rfl rfl rfl ?_); refine TL.runG rfl rfl (pure_pick_true rfl rfl) rfl ?_; refine TL.run1 (pure_pick_true rfl rfl) rfl ?_; refine TL.cutEnd (by repeat (first | exact Same.refl _ _ | refine Same.put rfl ?_)) rfl ?_
                  first | (cases hl1 : lookP (effP l id) (tK n) <;> cases hl2 : lookP (effP l base) (tK n) <;> simp_all; done) | grind
                · try dsimp only at hg93
                  (iterate 2 refine TL.runG rfl rfl (pure_move rfl) rfl ?_); refine TL.runG rfl rfl (pure_neq rfl rfl) rfl ?_; refine TL.runG rfl rfl (pure_pick_false rfl rfl) rfl ?_; refine TL.run1 (pure_pick_true rfl rfl) rfl ?_; refine TL.cutEnd (by repeat (first | exact Same.refl _ _ | refine Same.put rfl ?_)) rfl ?_
                  first | (cases hl1 : lookP (effP l id) (tK n) <;> cases hl2 : lookP (effP l base) (tK n) <;> simp_all; done) | grind
              · try dsimp only at hg90
                (iterate 7 refine TL.passG rfl rfl rfl rfl ?_); refine TL.run1 (pure_pick_false rfl rfl) rfl ?_; refine TL.cutEnd (by repeat (first | exact Same.refl _ _ | refine Same.put rfl ?_)) rfl ?_
                first | (cases hl1 : lookP (effP l id) (tK n) <;> cases hl2 : lookP (effP l base) (tK n) <;> simp_all; done) | grind
            refine TC.condD rfl (fun hc98 => ?_) (fun hc98 => ?_)
            · try dsimp only at hc98
              refine TC.region ?_; (iterate 3 refine TL.run1 (pure_move rfl) rfl ?_); refine TL.run1 (pure_indexAddr Ty.sl68 rfl rfl (by omega) hrow (List.cons_ne_nil _ _)) rfl ?_; refine TL.run1 (pure_fieldAddr Ty.f40_0 rfl (.zero _) (List.cons_ne_nil _ _)) rfl ?_; refine TL.run1 (pure_load1 Ty.one3 rfl) rfl ?_; refine TL.run1 (pure_move rfl) rfl ?_; refine TL.run1 (pure_build Ty.pl38 Ty.zero38 (.cons rfl rfl (.one rfl) rfl (.here (.nil _)) (.cons rfl rfl (.one rfl) rfl (.skip (.here (.nil _))) (.nil _)))) rfl ?_; refine TL.run1 (pure_buildSlice (xs := [.tmp 106]) Ty.app26 (by decide) rfl rfl (.cons rfl (.agg _) rfl .nil)) rfl ?_; refine TL.append Ty.app26 rfl rfl (by intro _; repeat (first | exact UpdR.here _ | apply UpdR.there)) (by simp only [List.length_append, List.length_cons, List.length_nil]; omega) (by simp only [List.length_append, List.length_cons, List.length_nil]; omega) rfl (fun v108 hv108 => ?_); refine TL.run1 (pure_assign rfl) rfl ?_; refine TL.nil' ?_; refine TC.regionCut [109, 110, 111, 112, 113, 114, 115, 116, 117, 118, 119, 120, 121, 122] 122 (lookP (effP l id) (tK n) = none ∧ ¬ lookP (effP l base) (tK n) = none ∧ ¬ lookP (effP l base) (tK n) = some (eAt tableK (n : Int)).std) ?_ ?_
              · skip
                refine TL.run1 (pure_move rfl) rfl ?_; refine TL.run1 (pure_not rfl) rfl ?_; refine TL.run1 (pure_move rfl) rfl ?_; refine TL.split 111 rfl (fun hg111 => ?_) (fun hg111 => ?_)
                · try dsimp only at hg111
                  refine TL.runG rfl rfl (pure_move rfl) rfl ?_; refine TL.run1 (pure_pick_true rfl rfl) rfl ?_; refine TL.run1 (pure_move rfl) rfl ?_; refine TL.split 114 rfl (fun hg114 => ?_) (fun hg114 => ?_)
                  · try dsimp only at hg114
                    (iterate 3 refine TL.runG rfl rfl (pure_move rfl) rfl ?_); refine TL.runG rfl rfl (pure_indexAddr Ty.sl68 rfl rfl (by omega) hrow (List.cons_ne_nil _ _)) rfl ?_; refine TL.runG rfl rfl (pure_fieldAddr Ty.f40_4 rfl (.succ (.succ (.succ (.succ (.zero _))))) (List.cons_ne_nil _ _)) rfl ?_; refine TL.runG rfl rfl (pure_load1 Ty.one3 rfl) rfl ?_; refine TL.runG rfl rfl (pure_neq rfl rfl) rfl ?_; refine TL.run1 (pure_pick_true rfl rfl) rfl ?_; refine TL.cutEnd (by repeat (first | exact Same.refl _ _ | refine Same.put rfl ?_)) rfl ?_
                    first | (cases hl1 : lookP (effP l id) (tK n) <;> cases hl2 : lookP (effP l base) (tK n) <;> simp_all; done) | grind
                  · try dsimp only at hg114
                    (iterate 7 refine TL.passG rfl rfl rfl rfl ?_); refine TL.run1 (pure_pick_false rfl rfl) rfl ?_; refine TL.cutEnd (by repeat (first | exact Same.refl _ _ | refine Same.put rfl ?_)) rfl ?_
                    first | (cases hl1 : lookP (effP l id) (tK n) <;> cases hl2 : lookP (effP l base) (tK n) <;> simp_all; done) | grind
                · try dsimp only at hg111
                  refine TL.passG rfl rfl rfl rfl ?_; refine TL.run1 (pure_pick_false rfl rfl) rfl ?_; refine TL.run1 (pure_move rfl) rfl ?_; (iterate 7 refine TL.passG rfl rfl rfl rfl ?_); refine TL.run1 (pure_pick_false rfl rfl) rfl ?_; refine TL.cutEnd (by repeat (first | exact Same.refl _ _ | refine Same.put rfl ?_)) rfl ?_
                  first | (cases hl1 : lookP (effP l id) (tK n) <;> cases hl2 : lookP (effP l base) (tK n) <;> simp_all; done) | grind
              refine TC.condD rfl (fun hc122 => ?_) (fun hc122 => ?_)
              · try dsimp only at hc122
                exact absurd hc122.1 hc98.1
              · try dsimp only at hc122
                refine TC.skip ?_; refine block_normal ?_; refine then_normal ?_; refine TC.region ?_; refine TL.run1 (pure_move rfl) rfl ?_; refine TL.run1 (pure_add rfl rfl (mkI64 (by omega) (by omega))) rfl ?_; refine TL.run1 (pure_assign rfl) rfl ?_; refine TL.nil ?_
                have hra : rbA (effP l id) (effP l base) (tK n) = [((tK n), getP (effP l id) (tK n) 0)] := rbA_own hc98.1 hc98.2
                have hst : encP (rbTo (effP l id) (effP l base) (n + 1)) = encP (rbTo (effP l id) (effP l base) n) ++ [[.v (.int .i64 (tK n)), .v (.int .i64 (getP (effP l id) (tK n) 0))]] := by rw [rbTo, hra, encP_snoc']
                refine loop_next (n + 1, v108) ⟨by ((try dsimp only); rw [show (((n + 1 : Nat)) : Int) = (n : Int) + 1 by omega]; repeat (first | exact Agree.nil | refine Agree.cons rfl ?_)), by (try dsimp only); rw [hst]; repeat (first | exact List.nil_sublist _ | exact List.Sublist.refl _ | apply List.Sublist.cons_cons | apply List.Sublist.cons)⟩ (show n + 1 ≤ _ by omega) (by (try dsimp only); omega)
            · try dsimp only at hc98
              refine TC.skip' ?_; refine TC.regionCut [109, 110, 111, 112, 113, 114, 115, 116, 117, 118, 119, 120, 121, 122] 122 (lookP (effP l id) (tK n) = none ∧ ¬ lookP (effP l base) (tK n) = none ∧ ¬ lookP (effP l base) (tK n) = some (eAt tableK (n : Int)).std) ?_ ?_
              · skip
                refine TL.run1 (pure_move rfl) rfl ?_; refine TL.run1 (pure_not rfl) rfl ?_; refine TL.run1 (pure_move rfl) rfl ?_; refine TL.split 111 rfl (fun hg111 => ?_) (fun hg111 => ?_)
                · try dsimp only at hg111
                  refine TL.runG rfl rfl (pure_move rfl) rfl ?_; refine TL.run1 (pure_pick_true rfl rfl) rfl ?_; refine TL.run1 (pure_move rfl) rfl ?_; refine TL.split 114 rfl (fun hg114 => ?_) (fun hg114 => ?_)
                  · try dsimp only at hg114
                    (iterate 3 refine TL.runG rfl rfl (pure_move rfl) rfl ?_); refine TL.runG rfl rfl (pure_indexAddr Ty.sl68 rfl rfl (by omega) hrow (List.cons_ne_nil _ _)) rfl ?_; refine TL.runG rfl rfl (pure_fieldAddr Ty.f40_4 rfl (.succ (.succ (.succ (.succ (.zero _))))) (List.cons_ne_nil _ _)) rfl ?_; refine TL.runG rfl rfl (pure_load1 Ty.one3 rfl) rfl ?_; refine TL.runG rfl rfl (pure_neq rfl rfl) rfl ?_; refine TL.run1 (pure_pick_true rfl rfl) rfl ?_; refine TL.cutEnd (by repeat (first | exact Same.refl _ _ | refine Same.put rfl ?_)) rfl ?_
                    first | (cases hl1 : lookP (effP l id) (tK n) <;> cases hl2 : lookP (effP l base) (tK n) <;> simp_all; done) | grind
                  · try dsimp only at hg114
                    (iterate 7 refine TL.passG rfl rfl rfl rfl ?_); refine TL.run1 (pure_pick_false rfl rfl) rfl ?_; refine TL.cutEnd (by repeat (first | exact Same.refl _ _ | refine Same.put rfl ?_)) rfl ?_
                    first | (cases hl1 : lookP (effP l id) (tK n) <;> cases hl2 : lookP (effP l base) (tK n) <;> simp_all; done) | grind
                · try dsimp only at hg111
                  refine TL.passG rfl rfl rfl rfl ?_; refine TL.run1 (pure_pick_false rfl rfl) rfl ?_; refine TL.run1 (pure_move rfl) rfl ?_; (iterate 7 refine TL.passG rfl rfl rfl rfl ?_); refine TL.run1 (pure_pick_false rfl rfl) rfl ?_; refine TL.cutEnd (by repeat (first | exact Same.refl _ _ | refine Same.put rfl ?_)) rfl ?_
                  first | (cases hl1 : lookP (effP l id) (tK n) <;> cases hl2 : lookP (effP l base) (tK n) <;> simp_all; done) | grind
              refine TC.condD rfl (fun hc122 => ?_) (fun hc122 => ?_)
              · try dsimp only at hc122
                refine TC.drawTailN 13 Ty.follows (by kernel_rfl) (by kernel_rfl) ?_
                simp only [List.take_succ_cons, List.take_zero, List.drop_succ_cons, List.drop_zero]
                (iterate 3 refine TD.run1 (pure_move rfl) rfl ?_); refine TD.run1 (pure_indexAddr Ty.sl68 rfl rfl (by omega) hrow (List.cons_ne_nil _ _)) rfl ?_; refine TD.run1 (pure_fieldAddr Ty.f40_0 rfl (.zero _) (List.cons_ne_nil _ _)) rfl ?_; refine TD.run1 (pure_load1 Ty.one3 rfl) rfl ?_; (iterate 2 refine TD.run1 (pure_move rfl) rfl ?_); refine TD.run1 (pure_indexAddr Ty.sl68 rfl rfl (by omega) hrow (List.cons_ne_nil _ _)) rfl ?_; refine TD.run1 (pure_fieldAddr Ty.f40_4 rfl (.succ (.succ (.succ (.succ (.zero _))))) (List.cons_ne_nil _ _)) rfl ?_; refine TD.run1 (pure_load1 Ty.one3 rfl) rfl ?_; refine TD.run1 (pure_build Ty.pl38 Ty.zero38 (.cons rfl rfl (.one rfl) rfl (.here (.nil _)) (.cons rfl rfl (.one rfl) rfl (.skip (.here (.nil _))) (.nil _)))) rfl ?_; refine TD.run1 (pure_buildSlice (xs := [.tmp 134]) Ty.app26 (by decide) rfl rfl (.cons rfl (.agg _) rfl .nil)) rfl ?_; refine TD.nil ?_
                show TL _ _ _ _ _ _
                refine TL.append Ty.app26 rfl rfl (by intro _; repeat (first | exact UpdR.here _ | apply UpdR.there)) (by simp only [List.length_append, List.length_cons, List.length_nil]; omega) (by simp only [List.length_append, List.length_cons, List.length_nil]; omega) rfl (fun v136 hv136 => ?_); refine TL.run1 (pure_assign rfl) rfl ?_; refine TL.nil ?_; refine block_normal ?_; refine then_normal ?_; refine TC.region ?_; refine TL.run1 (pure_move rfl) rfl ?_; refine TL.run1 (pure_add rfl rfl (mkI64 (by omega) (by omega))) rfl ?_; refine TL.run1 (pure_assign rfl) rfl ?_; refine TL.nil ?_
                have hra : rbA (effP l id) (effP l base) (tK n) = [((tK n), (eAt tableK (n : Int)).std)] := by (rw [tK_std hnl]; exact rbA_std hc122.1 hc122.2.1 (by rw [← tK_std hnl]; exact hc122.2.2))
                have hst : encP (rbTo (effP l id) (effP l base) (n + 1)) = encP (rbTo (effP l id) (effP l base) n) ++ [[.v (.int .i64 (tK n)), .v (.int .i64 (eAt tableK (n : Int)).std)]] := by rw [rbTo, hra, encP_snoc']
                refine loop_next (n + 1, v136) ⟨by ((try dsimp only); rw [show (((n + 1 : Nat)) : Int) = (n : Int) + 1 by omega]; repeat (first | exact Agree.nil | refine Agree.cons rfl ?_)), by (try dsimp only); rw [hst]; repeat (first | exact List.nil_sublist _ | exact List.Sublist.refl _ | apply List.Sublist.cons_cons | apply List.Sublist.cons)⟩ (show n + 1 ≤ _ by omega) (by (try dsimp only); omega)
              · try dsimp only at hc122
                refine TC.skip ?_; refine block_normal ?_; refine then_normal ?_; refine TC.region ?_; refine TL.run1 (pure_move rfl) rfl ?_; refine TL.run1 (pure_add rfl rfl (mkI64 (by omega) (by omega))) rfl ?_; refine TL.run1 (pure_assign rfl) rfl ?_; refine TL.nil ?_
                have hra : rbA (effP l id) (effP l base) (tK n) = [] := rbA_no hc98 (by rw [← tK_std hnl]; exact hc122)
                have hst : encP (rbTo (effP l id) (effP l base) (n + 1)) = encP (rbTo (effP l id) (effP l base) n) := by rw [rbTo, hra, List.append_nil]
                refine loop_next (n + 1, v) ⟨by ((try dsimp only); rw [show (((n + 1 : Nat)) : Int) = (n : Int) + 1 by omega]; repeat (first | exact Agree.nil | refine Agree.cons rfl ?_)), by (try dsimp only); rw [hst]; repeat (first | exact List.nil_sublist _ | exact List.Sublist.refl _ | apply List.Sublist.cons_cons | apply List.Sublist.cons)⟩ (show n + 1 ≤ _ by omega) (by (try dsimp only); omega)
          · try dsimp only at hc66
            refine TC.exit ?_; refine then_exit ?_; refine loop_exit ?_; refine block_here ?_; refine then_normal ?_; refine TC.seq ?_
            have hne : n = tableK.length := by omega
            subst hne
            change TC _ _ _ _ [Blk.row v 38 2 (encP (rbP (effP l id) (effP l base)))]
            refine TC.frz 13 [] (List.nil_sublist _) rfl (.rowS (gone_nil (by repeat (first | exact List.Mem.head _ | apply List.Mem.tail))) (by decide) (encP_each _)) ?_; refine TC.region ?_; refine TL.buildRow (xs := []) (ys := []) Ty.app22 (by decide) rfl rfl .nil rfl (fun v5 hv5 => ?_); refine TL.run1 (pure_move rfl) rfl ?_; refine TL.append Ty.app22 rfl rfl (by intro _; repeat (first | exact UpdR.here _ | apply UpdR.there)) (by simp only [List.length_append, List.length_cons, List.length_nil]; omega) (by simp only [List.length_append, List.length_cons, List.length_nil]; omega) rfl (fun v139 hv139 => ?_); refine TL.run1 (pure_assign rfl) rfl ?_; refine TL.nil' ?_; refine TC.seq ?_; refine TC.region ?_; (iterate 6 refine TL.run1 (pure_move rfl) rfl ?_); refine TL.indexRow Ty.sl22 rfl rfl (by repeat (first | exact List.Mem.head _ | apply List.Mem.tail)) (by omega) (by simp only [List.nil_append]; omega) rfl (fun g146 hg146 => ?_); refine TL.run1 (pure_fieldAddr_own Ty.f28_3 rfl) rfl ?_; refine TL.storeRow (es := 6) (i := (findS l id).toNat) (o := 3) (c' := [.v (.int .i64 (yF l id).id), .v (.int .i64 (yF l id).kind), .v (.string (yF l id).name), .v (.int .i64 base), .v (.int .i64 (yF l id).next), .sl 2 (encP (yF l id).props)]) rfl hg146 (by omega) rfl (.one rfl) Try.sizeOf3 rfl (by repeat (first | exact UpdR.here _ | apply UpdR.there)) hx (by repeat (first | exact PutR.nil _ | apply PutR.here | apply PutR.skip)) ?_; refine TL.indexRow Ty.sl22 rfl rfl (by repeat (first | exact List.Mem.head _ | apply List.Mem.tail)) (by omega) (by rw [List.length_set]; omega) rfl (fun g148 hg148 => ?_); refine TL.run1 (pure_fieldAddr_own Ty.f28_5 rfl) rfl ?_; refine TL.storeRow (es := 6) (i := (findS l id).toNat) (o := 5) (c' := (encSt (rebT l id base))) rfl hg148 (by omega) rfl (.one rfl) Try.sizeOf26 rfl (by repeat (first | exact UpdR.here _ | apply UpdR.there)) (hx1 _) (by repeat (first | exact PutR.nil _ | apply PutR.here | apply PutR.skip)) ?_
            rw [List.set_set, ← rebS_enc]
            refine TL.nil' ?_; refine TC.seq ?_; refine TC.region ?_; refine TL.run1 (pure_move rfl) rfl ?_; (iterate 2 refine TL.run1 (pure_assign rfl) rfl ?_); refine TL.nil' ?_; refine TC.ret ?_
            have hE : rebE l id base = 0 := by (unfold rebE; rw [hF, if_neg (by decide), if_neg hc38, if_neg hoff])
            unfold rebV; rw [hE, if_pos rfl]
            exact retF2 (.inl rfl) rfl rfl (.tupL (.cons (.rowS (by repeat (first | exact List.Mem.head _ | apply List.Mem.tail)) (by decide) (encSs_each _)) (.cons (.same _) .nil)))
      · try dsimp only at hc40
        have hoff : ¬ onP l base id := fun ⟨k, hk, _⟩ => by (rw [Classical.not_not.1 hc40, chN_eq (sq_zero l) (Nat.zero_le _)] at hk; omega)
        refine TC.skip' ?_; refine TC.seq ?_; refine TC.region ?_; (iterate 2 refine TL.run1 (pure_move rfl) rfl ?_); refine TL.run1 (pure_call (R8Eff l id hg (.inr hfd)) (.cons rfl (.cons rfl .nil)) Try.call33) rfl ?_; (iterate 2 refine TL.run1 (pure_move rfl) rfl ?_); refine TL.run1 (pure_call (R8Eff l base hg hb0) (.cons rfl (.cons rfl .nil)) Try.call33) rfl ?_; (iterate 2 refine TL.run1 (pure_assign rfl) rfl ?_); refine TL.nil' ?_; refine TC.seq ?_; refine TC.region ?_; refine TL.run1 (pure_assign rfl) rfl ?_; refine TL.nil' ?_; refine TC.seq ?_; refine TC.region ?_; refine TL.run1 (pure_call (Table_spec) .nil Try.call43) rfl ?_; refine TL.run1 (pure_assign rfl) rfl ?_; refine TL.nil' ?_; (iterate 2 refine TC.seq ?_); refine TC.nilrow 38 2 ?_; refine TC.region ?_; refine TL.run1 (pure_assign rfl) rfl ?_; refine TL.nil' ?_; refine TC.block ?_; refine TC.loopX (X := Nat × Value) (fun (n, v) => [(0, .sl 6 (encSs l)), (2, .v (.int .i64 base)), (8, .v (.int .i64 (findS l id))), (11, .sl 2 (encP (effP l id))), (12, .sl 2 (encP (effP l base))), (13, .v v), (14, .sl 6 (encK tableK)), (15, .v (.int .i64 n))]) (fun (n, v) => [.row v 38 2 (encP (rbTo (effP l id) (effP l base) n))]) (fun (n, v) => (n ≤ tableK.length)) (fun (n, v) => tableK.length - n) (0, .slice none 0 0) ⟨by skip; repeat (first | exact Agree.nil | refine Agree.cons rfl ?_), by skip; repeat (first | exact List.nil_sublist _ | exact List.Sublist.refl _ | apply List.Sublist.cons_cons | apply List.Sublist.cons)⟩ ?_ ?_
        · skip
          exact Nat.zero_le _
        rintro ⟨n, v⟩
        intro h1
        show TC _ _ _ (Env.of [(0, .sl 6 (encSs l)), (2, .v (.int .i64 base)), (8, .v (.int .i64 (findS l id))), (11, .sl 2 (encP (effP l id))), (12, .sl 2 (encP (effP l base))), (13, .v v), (14, .sl 6 (encK tableK)), (15, .v (.int .i64 n))]) [.row v 38 2 (encP (rbTo (effP l id) (effP l base) n))]
        (iterate 2 refine TC.seq ?_); refine TC.region ?_; (iterate 2 refine TL.run1 (pure_move rfl) rfl ?_); refine TL.run1 (pure_len Ty.sl68 rfl) rfl ?_; refine TL.run1 (pure_lss rfl rfl) rfl ?_; refine TL.nil' ?_; refine TC.condD rfl (fun hc66 => ?_) (fun hc66 => ?_)
        · try dsimp only at hc66
          refine TC.skip' ?_; refine TC.seq ?_; refine TC.block ?_; refine TC.seq ?_
          have hnl : n < tableK.length := by omega
          have hrow := encK_getN n hnl
          have hml := rbTo_len (effP l id) (effP l base) n
          have hme := encP_len (rbTo (effP l id) (effP l base) n)
          refine TC.region ?_; (iterate 3 refine TL.run1 (pure_move rfl) rfl ?_); refine TL.run1 (pure_indexAddr Ty.sl68 rfl rfl (by omega) hrow (List.cons_ne_nil _ _)) rfl ?_; refine TL.run1 (pure_fieldAddr Ty.f40_0 rfl (.zero _) (List.cons_ne_nil _ _)) rfl ?_; refine TL.run1 (pure_load1 Ty.one3 rfl) rfl ?_; refine TL.run1 (pure_call (R8Get_spec (effP l id) (tK n) (by omega)) (.cons rfl (.cons rfl .nil)) Try.call20) rfl ?_; refine TL.run1 (pure_move rfl) rfl ?_; (iterate 2 refine TL.run1 (pure_extract rfl rfl) rfl ?_); (iterate 2 refine TL.run1 (pure_assign rfl) rfl ?_); refine TL.nil' ?_; refine TC.seq ?_; refine TC.region ?_; (iterate 3 refine TL.run1 (pure_move rfl) rfl ?_); refine TL.run1 (pure_indexAddr Ty.sl68 rfl rfl (by omega) hrow (List.cons_ne_nil _ _)) rfl ?_; refine TL.run1 (pure_fieldAddr Ty.f40_0 rfl (.zero _) (List.cons_ne_nil _ _)) rfl ?_; refine TL.run1 (pure_load1 Ty.one3 rfl) rfl ?_; refine TL.run1 (pure_call (R8Get_spec (effP l base) (tK n) (by omega)) (.cons rfl (.cons rfl .nil)) Try.call20) rfl ?_; refine TL.run1 (pure_move rfl) rfl ?_; (iterate 2 refine TL.run1 (pure_extract rfl rfl) rfl ?_); (iterate 2 refine TL.run1 (pure_assign rfl) rfl ?_); refine TL.nil' ?_; refine TC.seq ?_
          have hg1 := getP_look (effP l id) (tK n) 0
          have hg2 := getP_look (effP l base) (tK n) 0
          have hh1 := hasP_look (effP l id) (tK n)
          have hh2 := hasP_look (effP l base) (tK n)
          refine TC.regionCut [89, 90, 91, 92, 93, 94, 95, 96, 97, 98] 98 (¬ lookP (effP l id) (tK n) = none ∧ ¬ lookP (effP l id) (tK n) = lookP (effP l base) (tK n)) ?_ ?_
          · skip
            (iterate 2 refine TL.run1 (pure_move rfl) rfl ?_); refine TL.split 90 rfl (fun hg90 => ?_) (fun hg90 => ?_)
            · try dsimp only at hg90
              refine TL.runG rfl rfl (pure_move rfl) rfl ?_; refine TL.runG rfl rfl (pure_not rfl) rfl ?_; refine TL.runG rfl rfl (pure_move rfl) rfl ?_; refine TL.split 93 rfl (fun hg93 => ?_) (fun hg93 => ?_)
              · try dsimp only at hg93
                (iterate 3 refine TL.passG rfl rfl rfl rfl ?_); refine TL.runG rfl rfl (pure_pick_true rfl rfl) rfl ?_; refine TL.run1 (pure_pick_true rfl rfl) rfl ?_; refine TL.cutEnd (by repeat (first | exact Same.refl _ _ | refine Same.put rfl ?_)) rfl ?_
                first | (cases hl1 : lookP (effP l id) (tK n) <;> cases hl2 : lookP (effP l base) (tK n) <;> simp_all; done) | grind
              · try dsimp only at hg93
                (iterate 2 refine TL.runG rfl rfl (pure_move rfl) rfl ?_); refine TL.runG rfl rfl (pure_neq rfl rfl) rfl ?_; refine TL.runG rfl rfl (pure_pick_false rfl rfl) rfl ?_; refine TL.run1 (pure_pick_true rfl rfl) rfl ?_; refine TL.cutEnd (by repeat (first | exact Same.refl _ _ | refine Same.put rfl ?_)) rfl ?_
                first | (cases hl1 : lookP (effP l id) (tK n) <;> cases hl2 : lookP (effP l base) (tK n) <;> simp_all; done) | grind
            · try dsimp only at hg90
              (iterate 7 refine TL.passG rfl rfl rfl rfl ?_); refine TL.run1 (pure_pick_false rfl rfl) rfl ?_; refine TL.cutEnd (by repeat (first | exact Same.refl _ _ | refine Same.put rfl ?_)) rfl ?_
              first | (cases hl1 : lookP (effP l id) (tK n) <;> cases hl2 : lookP (effP l base) (tK n) <;> simp_all; done) | grind
          refine TC.condD rfl (fun hc98 => ?_) (fun hc98 => ?_)
          · try dsimp only at hc98
            refine TC.region ?_; (iterate 3 refine TL.run1 (pure_move rfl) rfl ?_); refine TL.run1 (pure_indexAddr Ty.sl68 rfl rfl (by omega) hrow (List.cons_ne_nil _ _)) rfl ?_; refine TL.run1 (pure_fieldAddr Ty.f40_0 rfl (.zero _) (List.cons_ne_nil _ _)) rfl ?_; refine TL.run1 (pure_load1 Ty.one3 rfl) rfl ?_; refine TL.run1 (pure_move rfl) rfl ?_; refine TL.run1 (pure_build Ty.pl38 Ty.zero38 (.cons rfl rfl (.one rfl) rfl (.here (.nil _)) (.cons rfl rfl (.one rfl) rfl (.skip (.here (.nil _))) (.nil _)))) rfl ?_; refine TL.run1 (pure_buildSlice (xs := [.tmp 106]) Ty.app26 (by decide) rfl rfl (.cons rfl (.agg _) rfl .nil)) rfl ?_; refine TL.append Ty.app26 rfl rfl (by intro _; repeat (first | exact UpdR.here _ | apply UpdR.there)) (by simp only [List.length_append, List.length_cons, List.length_nil]; omega) (by simp only [List.length_append, List.length_cons, List.length_nil]; omega) rfl (fun v108 hv108 => ?_); refine TL.run1 (pure_assign rfl) rfl ?_; refine TL.nil' ?_; refine TC.regionCut [109, 110, 111, 112, 113, 114, 115, 116, 117, 118, 119, 120, 121, 122] 122 (lookP (effP l id) (tK n) = none ∧ ¬ lookP (effP l base) (tK n) = none ∧ ¬ lookP (effP l base) (tK n) = some (eAt tableK (n : Int)).std) ?_ ?_
            · skip
              refine TL.run1 (pure_move rfl) rfl ?_; refine TL.run1 (pure_not rfl) rfl ?_; refine TL.run1 (pure_move rfl) rfl ?_; refine TL.split 111 rfl (fun hg111 => ?_) (fun hg111 => ?_)
              · try dsimp only at hg111
                refine TL.runG rfl rfl (pure_move rfl) rfl ?_; refine TL.run1 (pure_pick_true rfl rfl) rfl ?_; refine TL.run1 (pure_move rfl) rfl ?_; refine TL.split 114 rfl (fun hg114 => ?_) (fun hg114 => ?_)
                · try dsimp only at hg114
                  (iterate 3 refine TL.runG rfl rfl (pure_move rfl) rfl ?_); refine TL.runG rfl rfl (pure_indexAddr Ty.sl68 rfl rfl (by omega) hrow (List.cons_ne_nil _ _)) rfl ?_; refine TL.runG rfl rfl (pure_fieldAddr Ty.f40_4 rfl (.succ (.succ (.succ (.succ (.zero _))))) (List.cons_ne_nil _ _)) rfl ?_; refine TL.runG rfl rfl (pure_load1 Ty.one3 rfl) rfl ?_; refine TL.runG rfl rfl (pure_neq rfl rfl) rfl ?_; refine TL.run1 (pure_pick_true rfl rfl) rfl ?_; refine TL.cutEnd (by repeat (first | exact Same.refl _ _ | refine Same.put rfl ?_)) rfl ?_
                  first | (cases hl1 : lookP (effP l id) (tK n) <;> cases hl2 : lookP (effP l base) (tK n) <;> simp_all; done) | grind
                · try dsimp only at hg114
                  (iterate 7 refine TL.passG rfl rfl rfl rfl ?_); refine TL.run1 (pure_pick_false rfl rfl) rfl ?_; refine TL.cutEnd (by repeat (first | exact Same.refl _ _ | refine Same.put rfl ?_)) rfl ?_
                  first | (cases hl1 : lookP (effP l id) (tK n) <;> cases hl2 : lookP (effP l base) (tK n) <;> simp_all; done) | grind
              · try dsimp only at hg111
                refine TL.passG rfl rfl rfl rfl ?_; refine TL.run1 (pure_pick_false rfl rfl) rfl ?_; refine TL.run1 (pure_move rfl) rfl ?_; (iterate 7 refine TL.passG rfl rfl rfl rfl ?_); refine TL.run1 (pure_pick_false rfl rfl) rfl ?_; refine TL.cutEnd (by repeat (first | exact Same.refl _ _ | refine Same.put rfl ?_)) rfl ?_
                first | (cases hl1 : lookP (effP l id) (tK n) <;> cases hl2 : lookP (effP l base) (tK n) <;> simp_all; done) | grind
            refine TC.condD rfl (fun hc122 => ?_) (fun hc122 => ?_)
            · try dsimp only at hc122
              exact absurd hc122.1 hc98.1
            · try dsimp only at hc122
              refine TC.skip ?_; refine block_normal ?_; refine then_normal ?_; refine TC.region ?_; refine TL.run1 (pure_move rfl) rfl ?_; refine TL.run1 (pure_add rfl rfl (mkI64 (by omega) (by omega))) rfl ?_; refine TL.run1 (pure_assign rfl) rfl ?_; refine TL.nil ?_
              have hra : rbA (effP l id) (effP l base) (tK n) = [((tK n), getP (effP l id) (tK n) 0)] := rbA_own hc98.1 hc98.2
              have hst : encP (rbTo (effP l id) (effP l base) (n + 1)) = encP (rbTo (effP l id) (effP l base) n) ++ [[.v (.int .i64 (tK n)), .v (.int .i64 (getP (effP l id) (tK n) 0))]] := by rw [rbTo, hra, encP_snoc']
              refine loop_next (n + 1, v108) ⟨by ((try dsimp only); rw [show (((n + 1 : Nat)) : Int) = (n : Int) + 1 by omega]; repeat (first | exact Agree.nil | refine Agree.cons rfl ?_)), by (try dsimp only); rw [hst]; repeat (first | exact List.nil_sublist _ | exact List.Sublist.refl _ | apply List.Sublist.cons_cons | apply List.Sublist.cons)⟩ (show n + 1 ≤ _ by omega) (by (try dsimp only); omega)
          · try dsimp only at hc98
            refine TC.skip' ?_; refine TC.regionCut [109, 110, 111, 112, 113, 114, 115, 116, 117, 118, 119, 120, 121, 122] 122 (lookP (effP l id) (tK n) = none ∧ ¬ lookP (effP l base) (tK n) = none ∧ ¬ lookP (effP l base) (tK n) = some (eAt tableK (n : Int)).std) ?_ ?_
            · skip
              refine TL.run1 (pure_move rfl) rfl ?_; refine TL.run1 (pure_not rfl) rfl ?_; refine TL.run1 (pure_move rfl) rfl ?_; refine TL.split 111 rfl (fun hg111 => ?_) (fun hg111 => ?_)
              · try dsimp only at hg111
                refine TL.runG rfl rfl (pure_move rfl) rfl ?_; refine TL.run1 (pure_pick_true rfl rfl) rfl ?_; refine TL.run1 (pure_move rfl) rfl ?_; refine TL.split 114 rfl (fun hg114 => ?_) (fun hg114 => ?_)
                · try dsimp only at hg114
                  (iterate 3 refine TL.runG rfl rfl (pure_move rfl) rfl ?_); refine TL.runG rfl rfl (pure_indexAddr Ty.sl68 rfl rfl (by omega) hrow (List.cons_ne_nil _ _)) rfl ?_; refine TL.runG rfl rfl (pure_fieldAddr Ty.f40_4 rfl (.succ (.succ (.succ (.succ (.zero _))))) (List.cons_ne_nil _ _)) rfl ?_; refine TL.runG rfl rfl (pure_load1 Ty.one3 rfl) rfl ?_; refine TL.runG rfl rfl (pure_neq rfl rfl) rfl ?_; refine TL.run1 (pure_pick_true rfl rfl) rfl ?_; refine TL.cutEnd (by repeat (first | exact Same.refl _ _ | refine Same.put rfl ?_)) rfl ?_
                  first | (cases hl1 : lookP (effP l id) (tK n) <;> cases hl2 : lookP (effP l base) (tK n) <;> simp_all; done) | grind
                · try dsimp only at hg114
                  (iterate 7 refine TL.passG rfl rfl rfl rfl ?_); refine TL.run1 (pure_pick_false rfl rfl) rfl ?_; refine TL.cutEnd (by repeat (first | exact Same.refl _ _ | refine Same.put rfl ?_)) rfl ?_
                  first | (cases hl1 : lookP (effP l id) (tK n) <;> cases hl2 : lookP (effP l base) (tK n) <;> simp_all; done) | grind
              · try dsimp only at hg111
                refine TL.passG rfl rfl rfl rfl ?_; refine TL.run1 (pure_pick_false rfl rfl) rfl ?_; refine TL.run1 (pure_move rfl) rfl ?_; (iterate 7 refine TL.passG rfl rfl rfl rfl ?_); refine TL.run1 (pure_pick_false rfl rfl) rfl ?_; refine TL.cutEnd (by repeat (first | exact Same.refl _ _ | refine Same.put rfl ?_)) rfl ?_
                first | (cases hl1 : lookP (effP l id) (tK n) <;> cases hl2 : lookP (effP l base) (tK n) <;> simp_all; done) | grind
            refine TC.condD rfl (fun hc122 => ?_) (fun hc122 => ?_)
            · try dsimp only at hc122
              refine TC.drawTailN 13 Ty.follows (by kernel_rfl) (by kernel_rfl) ?_
              simp only [List.take_succ_cons, List.take_zero, List.drop_succ_cons, List.drop_zero]
              (iterate 3 refine TD.run1 (pure_move rfl) rfl ?_); refine TD.run1 (pure_indexAddr Ty.sl68 rfl rfl (by omega) hrow (List.cons_ne_nil _ _)) rfl ?_; refine TD.run1 (pure_fieldAddr Ty.f40_0 rfl (.zero _) (List.cons_ne_nil _ _)) rfl ?_; refine TD.run1 (pure_load1 Ty.one3 rfl) rfl ?_; (iterate 2 refine TD.run1 (pure_move rfl) rfl ?_); refine TD.run1 (pure_indexAddr Ty.sl68 rfl rfl (by omega) hrow (List.cons_ne_nil _ _)) rfl ?_; refine TD.run1 (pure_fieldAddr Ty.f40_4 rfl (.succ (.succ (.succ (.succ (.zero _))))) (List.cons_ne_nil _ _)) rfl ?_; refine TD.run1 (pure_load1 Ty.one3 rfl) rfl ?_; refine TD.run1 (pure_build Ty.pl38 Ty.zero38 (.cons rfl rfl (.one rfl) rfl (.here (.nil _)) (.cons rfl rfl (.one rfl) rfl (.skip (.here (.nil _))) (.nil _)))) rfl ?_; refine TD.run1 (pure_buildSlice (xs := [.tmp 134]) Ty.app26 (by decide) rfl rfl (.cons rfl (.agg _) rfl .nil)) rfl ?_; refine TD.nil ?_
              show TL _ _ _ _ _ _
              refine TL.append Ty.app26 rfl rfl (by intro _; repeat (first | exact UpdR.here _ | apply UpdR.there)) (by simp only [List.length_append, List.length_cons, List.length_nil]; omega) (by simp only [List.length_append, List.length_cons, List.length_nil]; omega) rfl (fun v136 hv136 => ?_); refine TL.run1 (pure_assign rfl) rfl ?_; refine TL.nil ?_; refine block_normal ?_; refine then_normal ?_; refine TC.region ?_; refine TL.run1 (pure_move rfl) rfl ?_; refine TL.run1 (pure_add rfl rfl (mkI64 (by omega) (by omega))) rfl ?_; refine TL.run1 (pure_assign rfl) rfl ?_; refine TL.nil ?_
              have hra : rbA (effP l id) (effP l base) (tK n) = [((tK n), (eAt tableK (n : Int)).std)] := by (rw [tK_std hnl]; exact rbA_std hc122.1 hc122.2.1 (by rw [← tK_std hnl]; exact hc122.2.2))
              have hst : encP (rbTo (effP l id) (effP l base) (n + 1)) = encP (rbTo (effP l id) (effP l base) n) ++ [[.v (.int .i64 (tK n)), .v (.int .i64 (eAt tableK (n : Int)).std)]] := by rw [rbTo, hra, encP_snoc']
              refine loop_next (n + 1, v136) ⟨by ((try dsimp only); rw [show (((n + 1 : Nat)) : Int) = (n : Int) + 1 by omega]; repeat (first | exact Agree.nil | refine Agree.cons rfl ?_)), by (try dsimp only); rw [hst]; repeat (first | exact List.nil_sublist _ | exact List.Sublist.refl _ | apply List.Sublist.cons_cons | apply List.Sublist.cons)⟩ (show n + 1 ≤ _ by omega) (by (try dsimp only); omega)
            · try dsimp only at hc122
              refine TC.skip ?_; refine block_normal ?_; refine then_normal ?_; refine TC.region ?_; refine TL.run1 (pure_move rfl) rfl ?_; refine TL.run1 (pure_add rfl rfl (mkI64 (by omega) (by omega))) rfl ?_; refine TL.run1 (pure_assign rfl) rfl ?_; refine TL.nil ?_
              have hra : rbA (effP l id) (effP l base) (tK n) = [] := rbA_no hc98 (by rw [← tK_std hnl]; exact hc122)
              have hst : encP (rbTo (effP l id) (effP l base) (n + 1)) = encP (rbTo (effP l id) (effP l base) n) := by rw [rbTo, hra, List.append_nil]
              refine loop_next (n + 1, v) ⟨by ((try dsimp only); rw [show (((n + 1 : Nat)) : Int) = (n : Int) + 1 by omega]; repeat (first | exact Agree.nil | refine Agree.cons rfl ?_)), by (try dsimp only); rw [hst]; repeat (first | exact List.nil_sublist _ | exact List.Sublist.refl _ | apply List.Sublist.cons_cons | apply List.Sublist.cons)⟩ (show n + 1 ≤ _ by omega) (by (try dsimp only); omega)
        · try dsimp only at hc66
          refine TC.exit ?_; refine then_exit ?_; refine loop_exit ?_; refine block_here ?_; refine then_normal ?_; refine TC.seq ?_
          have hne : n = tableK.length := by omega
          subst hne
          change TC _ _ _ _ [Blk.row v 38 2 (encP (rbP (effP l id) (effP l base)))]
          refine TC.frz 13 [] (List.nil_sublist _) rfl (.rowS (gone_nil (by repeat (first | exact List.Mem.head _ | apply List.Mem.tail))) (by decide) (encP_each _)) ?_; refine TC.region ?_; refine TL.buildRow (xs := []) (ys := []) Ty.app22 (by decide) rfl rfl .nil rfl (fun v5 hv5 => ?_); refine TL.run1 (pure_move rfl) rfl ?_; refine TL.append Ty.app22 rfl rfl (by intro _; repeat (first | exact UpdR.here _ | apply UpdR.there)) (by simp only [List.length_append, List.length_cons, List.length_nil]; omega) (by simp only [List.length_append, List.length_cons, List.length_nil]; omega) rfl (fun v139 hv139 => ?_); refine TL.run1 (pure_assign rfl) rfl ?_; refine TL.nil' ?_; refine TC.seq ?_; refine TC.region ?_; (iterate 6 refine TL.run1 (pure_move rfl) rfl ?_); refine TL.indexRow Ty.sl22 rfl rfl (by repeat (first | exact List.Mem.head _ | apply List.Mem.tail)) (by omega) (by simp only [List.nil_append]; omega) rfl (fun g146 hg146 => ?_); refine TL.run1 (pure_fieldAddr_own Ty.f28_3 rfl) rfl ?_; refine TL.storeRow (es := 6) (i := (findS l id).toNat) (o := 3) (c' := [.v (.int .i64 (yF l id).id), .v (.int .i64 (yF l id).kind), .v (.string (yF l id).name), .v (.int .i64 base), .v (.int .i64 (yF l id).next), .sl 2 (encP (yF l id).props)]) rfl hg146 (by omega) rfl (.one rfl) Try.sizeOf3 rfl (by repeat (first | exact UpdR.here _ | apply UpdR.there)) hx (by repeat (first | exact PutR.nil _ | apply PutR.here | apply PutR.skip)) ?_; refine TL.indexRow Ty.sl22 rfl rfl (by repeat (first | exact List.Mem.head _ | apply List.Mem.tail)) (by omega) (by rw [List.length_set]; omega) rfl (fun g148 hg148 => ?_); refine TL.run1 (pure_fieldAddr_own Ty.f28_5 rfl) rfl ?_; refine TL.storeRow (es := 6) (i := (findS l id).toNat) (o := 5) (c' := (encSt (rebT l id base))) rfl hg148 (by omega) rfl (.one rfl) Try.sizeOf26 rfl (by repeat (first | exact UpdR.here _ | apply UpdR.there)) (hx1 _) (by repeat (first | exact PutR.nil _ | apply PutR.here | apply PutR.skip)) ?_
          rw [List.set_set, ← rebS_enc]
          refine TL.nil' ?_; refine TC.seq ?_; refine TC.region ?_; refine TL.run1 (pure_move rfl) rfl ?_; (iterate 2 refine TL.run1 (pure_assign rfl) rfl ?_); refine TL.nil' ?_; refine TC.ret ?_
          have hE : rebE l id base = 0 := by (unfold rebE; rw [hF, if_neg (by decide), if_neg hc38, if_neg hoff])
          unfold rebV; rw [hE, if_pos rfl]
          exact retF2 (.inl rfl) rfl rfl (.tupL (.cons (.rowS (by repeat (first | exact List.Mem.head _ | apply List.Mem.tail)) (by decide) (encSs_each _)) (.cons (.same _) .nil)))
end Go.Ob
