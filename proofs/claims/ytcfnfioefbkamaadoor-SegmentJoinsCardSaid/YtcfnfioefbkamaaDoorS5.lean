import Derived.Test.YtcfnfioefbkamaaDoorS2
import Derived.Test.YtcfnfioefbkamaaDoorK8
set_option linter.unusedVariables false
set_option linter.unusedSimpArgs false
namespace Go.Ob
open Go.Proofs

def bndR (s : ByteArray) : List Int := if okS s = true then bnds (cls s) else []
def scR (s : ByteArray) : List Int := if okS s = true then scL s else []
theorem RBnd_spec (s : ByteArray) (hs : s.size ≤ 1000000000) : Fun Tryd.prog 17 [.sl 1 (encI (pts s))] (.sl 1 (encI (bnds (cls s)))) := RBoundaries_spec (pts s) (by have := nR_le s; rw [pts_len]; omega)
set_option maxRecDepth 100000 in
theorem at_spec (c : List Int) (k : Int) (hc : c.length ≤ 1000000001) : Fun Tryd.prog 58 [.sl 1 (encI c), .v (.int .i64 k)] (.v (.int .i64 (atI c k))) := by
  refine Fun.enter (n := 17) (rs := [.tmp 4]) Tryd.func58 rfl Tryd.ntmps58 Tryd.results58 rfl (fun w F => ?_)
  have hkl := encI_len c
  refine TC.seq ?_; refine TC.region ?_; refine TL.run1 (pure_assign rfl) rfl ?_; refine TL.nil' ?_; refine TC.seq ?_; refine TC.regionCut [5, 6, 7, 8, 9, 10, 11, 12] 12 (k < 0 ∨ k ≥ c.length) ?_ ?_
  · skip
    refine TL.run1 (pure_move rfl) rfl ?_; refine TL.run1 (pure_lss rfl rfl) rfl ?_; refine TL.run1 (pure_move rfl) rfl ?_; refine TL.splitP 7 rfl (fun hg7 => ?_) (fun hg7 => ?_)
    · try dsimp only at hg7
      (iterate 4 refine TL.passG rfl rfl rfl rfl ?_); refine TL.run1 (pure_pick_true rfl rfl) rfl ?_; refine TL.cutEnd (by repeat (first | exact Same.refl _ _ | refine Same.put rfl ?_)) rfl ?_
      first | (simp only [decide_eq_true_eq, Bool.false_eq_true, false_iff, true_iff, iff_true, iff_false, Bool.not_eq_true]; omega) | (simp_all; done) | (simp_all; omega) | grind
    · try dsimp only at hg7
      (iterate 2 refine TL.runG rfl rfl (pure_move rfl) rfl ?_); refine TL.runG rfl rfl (pure_len Ty.sl35 rfl) rfl ?_; refine TL.runG rfl rfl (pure_geq rfl rfl) rfl ?_; refine TL.run1 (pure_pick_false rfl rfl) rfl ?_; refine TL.cutEnd (by repeat (first | exact Same.refl _ _ | refine Same.put rfl ?_)) rfl ?_
      first | (simp only [decide_eq_true_eq, Bool.false_eq_true, false_iff, true_iff, iff_true, iff_false, Bool.not_eq_true]; omega) | (simp_all; done) | (simp_all; omega) | grind
  refine TC.condD rfl (fun hc12 => ?_) (fun hc12 => ?_)
  · try dsimp only at hc12
    refine TC.seq ?_; refine TC.region ?_; refine TL.run1 (pure_assign rfl) rfl ?_; refine TL.nil' ?_; refine TC.ret ?_; refine then_ret ?_
    exact ret_int rfl (atI_out hc12).symm
  · try dsimp only at hc12
    refine TC.skip' ?_; refine TC.seq ?_
    have hrow := encI_get c k (by omega) (by omega)
    refine TC.region ?_; (iterate 2 refine TL.run1 (pure_move rfl) rfl ?_); refine TL.run1 (pure_indexAddr Ty.sl35 rfl rfl (by omega) (by assumption) (List.cons_ne_nil _ _)) rfl ?_; refine TL.run1 (pure_load1 Ty.one3 rfl) rfl ?_; refine TL.run1 (pure_assign rfl) rfl ?_; refine TL.nil' ?_; refine TC.ret ?_
    exact ret_int rfl (atI_in (by omega) (by omega)).symm
set_option maxRecDepth 100000 in
theorem inside_spec (c : List Int) (k : Nat) (hk : k < c.length) (hc : c.length ≤ 1000000000) : Fun Tryd.prog 34 [.sl 1 (encI c), .v (.int .i64 k)] (.v (.bool (decide (InsP c k)))) := by
  refine Fun.enter (n := 39) (rs := [.tmp 4]) Tryd.func34 rfl Tryd.ntmps34 Tryd.results34 rfl (fun w F => ?_)
  have hkl := encI_len c
  have hat := atI_in (c := c) (k := ((k : Nat) : Int)) (by omega) (by omega)
  refine TC.seq ?_; refine TC.region ?_; refine TL.run1 (pure_assign rfl) rfl ?_; refine TL.nil' ?_; (iterate 2 refine TC.seq ?_); refine TC.region ?_; (iterate 2 refine TL.run1 (pure_move rfl) rfl ?_); refine TL.run1 (pure_call (at_spec c ((k : Nat) : Int) (by omega)) (.cons rfl (.cons rfl .nil)) Tryd.call58) rfl ?_; refine TL.nil' ?_; refine TC.block ?_; (iterate 2 refine TC.seq ?_)
  rw [hat]
  refine TC.region ?_; refine TL.run1 (pure_eql rfl rfl) rfl ?_; refine TL.run1 (pure_assign rfl) rfl ?_; refine TL.nil' ?_; refine TC.condD rfl (fun hc8 => ?_) (fun hc8 => ?_)
  · try dsimp only at hc8
    have hq5 := hc8
    refine TC.skip' ?_; refine TC.condD rfl (fun hc8 => ?_) (fun hc8 => ?_)
    · try dsimp only at hc8
      refine TC.seq ?_; refine TC.region ?_; refine TL.run1 (pure_assign rfl) rfl ?_; refine TL.nil' ?_; refine TC.ret ?_; refine block_ret ?_; refine then_ret ?_
      exact ret_bool rfl (decide_eq_true (show InsP c k by exact .inl hq5)).symm
    · try dsimp only at hc8
      exact absurd hq5 hc8
  · try dsimp only at hc8
    have hn5 := hc8
    refine TC.region ?_; refine TL.run1 (pure_eql rfl rfl) rfl ?_; refine TL.run1 (pure_assign rfl) rfl ?_; refine TL.nil' ?_; refine TC.condD rfl (fun hc8 => ?_) (fun hc8 => ?_)
    · try dsimp only at hc8
      refine TC.seq ?_; refine TC.region ?_; refine TL.run1 (pure_assign rfl) rfl ?_; refine TL.nil' ?_; refine TC.ret ?_; refine block_ret ?_; refine then_ret ?_
      exact ret_bool rfl (decide_eq_true (show InsP c k by exact .inr (.inl hc8))).symm
    · try dsimp only at hc8
      refine TC.seq ?_; refine TC.region ?_; refine TL.run1 (pure_eql rfl rfl) rfl ?_; refine TL.run1 (pure_assign rfl) rfl ?_; refine TL.nil' ?_; refine TC.condD rfl (fun hc11 => ?_) (fun hc11 => ?_)
      · try dsimp only at hc11
        refine TC.seq ?_; refine TC.region ?_; (iterate 2 refine TL.run1 (pure_move rfl) rfl ?_); refine TL.run1 (pure_sub rfl rfl (mkI64 (by omega) (by omega))) rfl ?_; refine TL.run1 (pure_call (at_spec c (((k : Nat) : Int) - 1) (by omega)) (.cons rfl (.cons rfl .nil)) Tryd.call58) rfl ?_; refine TL.run1 (pure_eql rfl rfl) rfl ?_; refine TL.run1 (pure_move rfl) rfl ?_; refine TL.splitP 18 rfl (fun hg18 => ?_) (fun hg18 => ?_)
        · try dsimp only at hg18
          (iterate 2 refine TL.runG rfl rfl (pure_move rfl) rfl ?_); refine TL.runG rfl rfl (pure_add rfl rfl (mkI64 (by omega) (by omega))) rfl ?_; refine TL.runG rfl rfl (pure_call (at_spec c (((k : Nat) : Int) + 1) (by omega)) (.cons rfl (.cons rfl .nil)) Tryd.call58) rfl ?_; refine TL.runG rfl rfl (pure_eql rfl rfl) rfl ?_; refine TL.run1 (pure_pick_true rfl rfl) rfl ?_; refine TL.run1 (pure_assign rfl) rfl ?_; refine TL.nil' ?_; refine TC.ret ?_; refine block_ret ?_; refine then_ret ?_
          exact ret_bool rfl (by first | (rw [eq_comm, decide_eq_true_eq]; unfold InsP; omega) | (rw [eq_comm, decide_eq_false_iff_not]; unfold InsP; omega) | (rw [decide_eq_decide]; unfold InsP; omega))
        · try dsimp only at hg18
          (iterate 5 refine TL.passG rfl rfl rfl rfl ?_); refine TL.run1 (pure_pick_false rfl rfl) rfl ?_; refine TL.run1 (pure_assign rfl) rfl ?_; refine TL.nil' ?_; refine TC.ret ?_; refine block_ret ?_; refine then_ret ?_
          exact ret_bool rfl (by first | (rw [eq_comm, decide_eq_true_eq]; unfold InsP; omega) | (rw [eq_comm, decide_eq_false_iff_not]; unfold InsP; omega) | (rw [decide_eq_decide]; unfold InsP; omega))
      · try dsimp only at hc11
        refine TC.seq ?_; refine TC.region ?_; refine TL.run1 (pure_eql rfl rfl) rfl ?_; refine TL.run1 (pure_assign rfl) rfl ?_; refine TL.nil' ?_; refine TC.condD rfl (fun hc25 => ?_) (fun hc25 => ?_)
        · try dsimp only at hc25
          refine TC.seq ?_; refine TC.region ?_; (iterate 2 refine TL.run1 (pure_move rfl) rfl ?_); refine TL.run1 (pure_sub rfl rfl (mkI64 (by omega) (by omega))) rfl ?_; refine TL.run1 (pure_call (at_spec c (((k : Nat) : Int) - 1) (by omega)) (.cons rfl (.cons rfl .nil)) Tryd.call58) rfl ?_; refine TL.run1 (pure_eql rfl rfl) rfl ?_; refine TL.run1 (pure_move rfl) rfl ?_; refine TL.splitP 32 rfl (fun hg32 => ?_) (fun hg32 => ?_)
          · try dsimp only at hg32
            (iterate 2 refine TL.runG rfl rfl (pure_move rfl) rfl ?_); refine TL.runG rfl rfl (pure_add rfl rfl (mkI64 (by omega) (by omega))) rfl ?_; refine TL.runG rfl rfl (pure_call (at_spec c (((k : Nat) : Int) + 1) (by omega)) (.cons rfl (.cons rfl .nil)) Tryd.call58) rfl ?_; refine TL.runG rfl rfl (pure_eql rfl rfl) rfl ?_; refine TL.run1 (pure_pick_true rfl rfl) rfl ?_; refine TL.run1 (pure_assign rfl) rfl ?_; refine TL.nil' ?_; refine TC.ret ?_; refine block_ret ?_; refine then_ret ?_
            exact ret_bool rfl (by first | (rw [eq_comm, decide_eq_true_eq]; unfold InsP; omega) | (rw [eq_comm, decide_eq_false_iff_not]; unfold InsP; omega) | (rw [decide_eq_decide]; unfold InsP; omega))
          · try dsimp only at hg32
            (iterate 5 refine TL.passG rfl rfl rfl rfl ?_); refine TL.run1 (pure_pick_false rfl rfl) rfl ?_; refine TL.run1 (pure_assign rfl) rfl ?_; refine TL.nil' ?_; refine TC.ret ?_; refine block_ret ?_; refine then_ret ?_
            exact ret_bool rfl (by first | (rw [eq_comm, decide_eq_true_eq]; unfold InsP; omega) | (rw [eq_comm, decide_eq_false_iff_not]; unfold InsP; omega) | (rw [decide_eq_decide]; unfold InsP; omega))
        · try dsimp only at hc25
          refine TC.skip ?_; refine block_normal ?_; refine then_normal ?_; refine TC.seq ?_; refine TC.region ?_; refine TL.run1 (pure_assign rfl) rfl ?_; refine TL.nil' ?_; refine TC.ret ?_
          exact ret_bool rfl (decide_eq_false (show ¬ InsP c k by unfold InsP; omega)).symm
set_option maxRecDepth 100000 in
theorem R3clusters_spec (s : ByteArray) (hs : s.size ≤ 1000000000) : Fun Tryd.prog 33 [.v (.string s)] (.tup [.sl 1 (encI (bndR s)), .sl 1 (encI (scR s)), .v (.bool (okS s))]) := by
  refine Fun.enterF (n := 38) (rs := [.tmp 2, .tmp 3, .tmp 4]) Tryd.func33 rfl Tryd.ntmps33 Tryd.results33 rfl (fun w F => ?_); refine TC.seq ?_; refine TC.region ?_; (iterate 3 refine TL.run1 (pure_assign rfl) rfl ?_); refine TL.nil' ?_; refine TC.seq ?_; refine TC.region ?_; refine TL.run1 (pure_move rfl) rfl ?_; refine TL.run1 (pure_call (Points_spec s hs) (.cons rfl .nil) Tryd.call16) rfl ?_; refine TL.run1 (pure_move rfl) rfl ?_; (iterate 3 refine TL.run1 (pure_extract rfl rfl) rfl ?_); (iterate 3 refine TL.run1 (pure_assign rfl) rfl ?_); refine TL.nil' ?_; (iterate 2 refine TC.seq ?_); refine TC.region ?_; refine TL.run1 (pure_move rfl) rfl ?_; refine TL.run1 (pure_not rfl) rfl ?_; refine TL.nil' ?_; refine TC.condN rfl (fun hc15 => ?_) (fun hc15 => ?_)
  · try dsimp only at hc15
    have hok : okS s = false := decide_eq_false hc15
    refine TC.seq ?_; (iterate 2 refine TC.nilrow 3 1 ?_); refine TC.region ?_; (iterate 3 refine TL.run1 (pure_assign rfl) rfl ?_); refine TL.nil' ?_; refine TC.ret ?_; refine then_ret ?_
    unfold bndR scR; rw [hok]
    exact ret3F (.inl rfl) rfl rfl rfl (.tupL (.cons (.rowS (v := .slice none 0 0) (e := 3) (xs := []) (by repeat (first | exact List.Mem.head _ | apply List.Mem.tail)) (by decide) (by simp)) (.cons (.rowS (v := .slice none 0 0) (e := 3) (xs := []) (by repeat (first | exact List.Mem.head _ | apply List.Mem.tail)) (by decide) (by simp)) (.cons (.same _) .nil))))
  · try dsimp only at hc15
    have hok : okS s = true := decide_eq_true hc15
    obtain ⟨v1, v2, _, _, _⟩ := okV hok
    rw [v1, v2]
    refine TC.nilrow 3 1 ?_
    have hkb := encI_len (bnds (cls s))
    have hkp := encI_len (pts s)
    have hpl := pts_len s
    have hnl := nR_le s
    have hbl : (bnds (cls s)).length = (cAll (cls s)).length + 1 := ends_len _
    have hcl := cAll_len_le (cls s)
    rw [cls_len] at hcl
    refine TC.skip' ?_; refine TC.seq ?_; refine TC.region ?_; refine TL.run1 (pure_move rfl) rfl ?_; refine TL.run1 (pure_call (RBnd_spec s hs) (.cons rfl .nil) Tryd.call17) rfl ?_; refine TL.run1 (pure_assign rfl) rfl ?_; refine TL.nil' ?_; (iterate 2 refine TC.seq ?_); refine TC.region ?_; refine TL.run1 (pure_assign rfl) rfl ?_; refine TL.nil' ?_; refine TC.block ?_; refine TC.loopX (X := Nat × Value) (fun (i, v) => [(2, .sl 1 (encI (bnds (cls s)))), (3, .v v), (5, .sl 1 (encI (pts s))), (7, .v (.int .i64 i))]) (fun (i, v) => [.row v 3 1 (encI ((scL s).take i))]) (fun (i, v) => (i ≤ (cAll (cls s)).length)) (fun (i, v) => (cAll (cls s)).length - i) (0, .slice none 0 0) ⟨by skip; repeat (first | exact Agree.nil | refine Agree.cons rfl ?_), by skip; repeat (first | exact List.nil_sublist _ | exact List.Sublist.refl _ | apply List.Sublist.cons_cons | apply List.Sublist.cons)⟩ ?_ ?_
    · skip
      exact Nat.zero_le _
    rintro ⟨i, v⟩
    intro h1
    show TC _ _ _ (Env.of [(2, .sl 1 (encI (bnds (cls s)))), (3, .v v), (5, .sl 1 (encI (pts s))), (7, .v (.int .i64 i))]) [.row v 3 1 (encI ((scL s).take i))]
    (iterate 2 refine TC.seq ?_); refine TC.region ?_; refine TL.run1 (pure_move rfl) rfl ?_; refine TL.run1 (pure_add rfl rfl (mkI64 (by omega) (by omega))) rfl ?_; refine TL.run1 (pure_move rfl) rfl ?_; refine TL.run1 (pure_len Ty.sl35 rfl) rfl ?_; refine TL.run1 (pure_lss rfl rfl) rfl ?_; refine TL.nil' ?_; refine TC.condD rfl (fun hc22 => ?_) (fun hc22 => ?_)
    · try dsimp only at hc22
      refine TC.skip' ?_; refine TC.seq ?_; refine TC.block ?_
      have hbb := cAll_start s i (by omega)
      have hrb : (encI (bnds (cls s)))[((i : Nat) : Int).toNat]? = some [.v (.int .i64 (iAt (bnds (cls s)) i))] := encI_get (bnds (cls s)) i (by omega) (by omega)
      have hrp := encI_get (pts s) (iAt (bnds (cls s)) i) (by omega) (by omega)
      have hke := encI_len ((scL s).take i)
      rw [List.length_take] at hke
      refine TC.region ?_; (iterate 4 refine TL.run1 (pure_move rfl) rfl ?_); refine TL.run1 (pure_indexAddr Ty.sl35 rfl rfl (by omega) hrb (List.cons_ne_nil _ _)) rfl ?_; refine TL.run1 (pure_load1 Ty.one3 rfl) rfl ?_; refine TL.run1 (pure_indexAddr Ty.sl35 rfl rfl (by omega) hrp (List.cons_ne_nil _ _)) rfl ?_; refine TL.run1 (pure_load1 Ty.one3 rfl) rfl ?_; refine TL.run1 (pure_call (R3Class_spec (iAt (pts s) (iAt (bnds (cls s)) i))) (.cons rfl .nil) Tryd.call21) rfl ?_; refine TL.run1 (pure_buildSlice (xs := [.tmp 33]) Ty.app35 (by decide) rfl rfl (.cons rfl (.one rfl) rfl .nil)) rfl ?_; refine TL.append Ty.app35 rfl rfl (by intro _; repeat (first | exact UpdR.here _ | apply UpdR.there)) (by simp only [List.length_append, List.length_cons, List.length_nil]; omega) (by simp only [List.length_append, List.length_cons, List.length_nil]; omega) rfl (fun v35 hv35 => ?_); refine TL.run1 (pure_assign rfl) rfl ?_; refine TL.nil ?_; refine block_normal ?_; refine then_normal ?_; refine TC.region ?_; refine TL.run1 (pure_move rfl) rfl ?_; refine TL.run1 (pure_add rfl rfl (mkI64 (by omega) (by omega))) rfl ?_; refine TL.run1 (pure_assign rfl) rfl ?_; refine TL.nil ?_
      have htk : (scL s).take (i + 1) = (scL s).take i ++ [clsS (iAt (pts s) (iAt (bnds (cls s)) i))] := by (rw [List.take_succ_eq_append_getElem (by rw [scL_len]; omega)]; congr 2; rw [← scL_get s i (by omega)]; unfold iAt; rw [Int.toNat_natCast, List.getD_eq_getElem?_getD, List.getElem?_eq_getElem (by rw [scL_len]; omega)]; rfl)
      refine loop_next (i + 1, v35) ⟨by (dsimp only; rw [show (((i + 1 : Nat)) : Int) = (i : Int) + 1 by omega]; repeat (first | exact Agree.nil | refine Agree.cons rfl ?_)), by dsimp only; rw [htk, encI_snoc]; repeat (first | exact List.nil_sublist _ | exact List.Sublist.refl _ | apply List.Sublist.cons_cons | apply List.Sublist.cons)⟩ (show i + 1 ≤ _ by omega) (by dsimp only; omega)
    · try dsimp only at hc22
      refine TC.exit ?_; refine then_exit ?_; refine loop_exit ?_; refine block_here ?_; refine then_normal ?_; refine TC.seq ?_; refine TC.region ?_; (iterate 2 refine TL.run1 (pure_move rfl) rfl ?_); (iterate 3 refine TL.run1 (pure_assign rfl) rfl ?_); refine TL.nil' ?_; refine TC.ret ?_
      have hin : i = (cAll (cls s)).length := by omega
      unfold bndR scR; rw [hok, if_pos rfl, if_pos rfl]
      rw [take_all_of (scL s) i (by rw [scL_len]; omega)]
      exact ret3F (.inl rfl) rfl rfl rfl (.tupL (.cons (.same _) (.cons (.rowS (by repeat (first | exact List.Mem.head _ | apply List.Mem.tail)) (by decide) (encI_each _)) (.cons (.same _) .nil))))
set_option maxHeartbeats 2000000 in
set_option maxRecDepth 100000 in
theorem R3Tokens_spec (s : ByteArray) (hs : s.size ≤ 500000000) : Fun Tryd.prog 14 [.v (.string s)] (.tup [.sl 3 (tokV s), .v (.bool (okS s))]) := by
  refine Fun.enterF (n := 97) (rs := [.tmp 2, .tmp 3]) Tryd.func14 rfl Tryd.ntmps14 Tryd.results14 rfl (fun w F => ?_); refine TC.seq ?_; refine TC.region ?_; (iterate 2 refine TL.run1 (pure_assign rfl) rfl ?_); refine TL.nil' ?_; refine TC.seq ?_; refine TC.region ?_; refine TL.run1 (pure_move rfl) rfl ?_; refine TL.run1 (pure_call (R3clusters_spec s (by omega)) (.cons rfl .nil) Tryd.call33) rfl ?_; refine TL.run1 (pure_move rfl) rfl ?_; (iterate 3 refine TL.run1 (pure_extract rfl rfl) rfl ?_); (iterate 3 refine TL.run1 (pure_assign rfl) rfl ?_); refine TL.nil' ?_; (iterate 2 refine TC.seq ?_); refine TC.region ?_; refine TL.run1 (pure_move rfl) rfl ?_; refine TL.run1 (pure_not rfl) rfl ?_; refine TL.nil' ?_; refine TC.condN rfl (fun hc19 => ?_) (fun hc19 => ?_)
  · try dsimp only at hc19
    have hok : okS s = false := decide_eq_false hc19
    refine TC.seq ?_; refine TC.nilrow 33 3 ?_; refine TC.region ?_; (iterate 2 refine TL.run1 (pure_assign rfl) rfl ?_); refine TL.nil' ?_; refine TC.ret ?_; refine then_ret ?_
    unfold tokV; rw [hok]
    exact retF2 (.inl rfl) rfl rfl (.tupL (.cons (.rowS (v := .slice none 0 0) (e := 33) (xs := []) (by repeat (first | exact List.Mem.head _ | apply List.Mem.tail)) (by decide) (by simp)) (.cons (.same _) .nil)))
  · try dsimp only at hc19
    have hok : okS s = true := decide_eq_true hc19
    have e1 : bndR s = (bnds (cls s)) := by unfold bndR; rw [if_pos hok]
    have e2 : scR s = scL s := by unfold scR; rw [if_pos hok]
    rw [e1, e2]
    refine TC.nilrow 33 3 ?_
    have hcl := cAll_len_le (cls s)
    rw [cls_len] at hcl
    have hnl := nR_le s
    have hsl := scL_len s
    have hbl0 : (bnds (cls s)).length = (cAll (cls s)).length + 1 := ends_len _
    obtain ⟨c, hcd⟩ : ∃ c, scL s = c := ⟨_, rfl⟩
    obtain ⟨b, hbd⟩ : ∃ b, (bnds (cls s)) = b := ⟨_, rfl⟩
    rw [hcd, hbd]
    rw [hcd] at hsl
    rw [hbd] at hbl0
    have hbl : b.length = c.length + 1 := by omega
    have hcc : c.length ≤ 1000000001 := by omega
    have hkc0 := encI_len c
    refine TC.skip' ?_; refine TC.seq ?_; refine TC.region ?_; refine TL.run1 (pure_assign rfl) rfl ?_; refine TL.nil' ?_; (iterate 2 refine TC.seq ?_); refine TC.region ?_; refine TL.run1 (pure_assign rfl) rfl ?_; refine TL.nil' ?_; refine TC.block ?_; refine TC.loopX (X := Nat × Value) (fun (m, v) => [(4, .sl 1 (encI b)), (5, .sl 1 (encI c)), (7, .v v), (8, .v (.int .i64 (posT c m)))]) (fun (m, v) => [.row v 33 3 ((encTk c b).take m)]) (fun (m, v) => (∀ j, j < m → posT c j < c.length)) (fun (m, v) => c.length - (posT c m)) (0, .slice none 0 0) ⟨by skip; repeat (first | exact Agree.nil | refine Agree.cons rfl ?_), by skip; repeat (first | exact List.nil_sublist _ | exact List.Sublist.refl _ | apply List.Sublist.cons_cons | apply List.Sublist.cons)⟩ ?_ ?_
    · skip
      exact fun j h => by omega
    rintro ⟨m, v⟩
    intro hm
    show TC _ _ _ (Env.of [(4, .sl 1 (encI b)), (5, .sl 1 (encI c)), (7, .v v), (8, .v (.int .i64 (posT c m)))]) [.row v 33 3 ((encTk c b).take m)]
    have hkc := encI_len c
    have hkb := encI_len b
    have hpe := posT_le c m
    (iterate 2 refine TC.seq ?_); refine TC.region ?_; (iterate 2 refine TL.run1 (pure_move rfl) rfl ?_); refine TL.run1 (pure_len Ty.sl35 rfl) rfl ?_; refine TL.run1 (pure_lss rfl rfl) rfl ?_; refine TL.nil' ?_; refine TC.condD rfl (fun hc23 => ?_) (fun hc23 => ?_)
    · try dsimp only at hc23
      have hpl : (posT c m) < c.length := by omega
      refine TC.skip' ?_; refine TC.block ?_; refine TC.seq ?_; refine TC.region ?_; refine TL.run1 (pure_move rfl) rfl ?_; refine TL.run1 (pure_add rfl rfl (mkI64 (by omega) (by omega))) rfl ?_; (iterate 2 refine TL.run1 (pure_assign rfl) rfl ?_); refine TL.nil' ?_; (iterate 2 refine TC.seq ?_)
      have hpl : (posT c m) < c.length := by omega
      have hrow : (encI c)[((posT c m : Nat) : Int).toNat]? = some [.v (.int .i64 (iAt c ((posT c m : Nat) : Int)))] := encI_get c _ (by omega) (by omega)
      refine TC.region ?_; (iterate 2 refine TL.run1 (pure_move rfl) rfl ?_); refine TL.run1 (pure_indexAddr Ty.sl35 rfl rfl (by omega) hrow (List.cons_ne_nil _ _)) rfl ?_; refine TL.run1 (pure_load1 Ty.one3 rfl) rfl ?_; refine TL.nil' ?_; refine TC.block ?_; (iterate 2 refine TC.seq ?_); refine TC.region ?_; refine TL.run1 (pure_eql rfl rfl) rfl ?_; refine TL.run1 (pure_assign rfl) rfl ?_; refine TL.nil' ?_; refine TC.condD rfl (fun hc30 => ?_) (fun hc30 => ?_)
      · try dsimp only at hc30
        have hq5 := hc30
        refine TC.skip' ?_; refine TC.condD rfl (fun hc30 => ?_) (fun hc30 => ?_)
        · try dsimp only at hc30
          have hw : WrdP c (posT c m) := .inl hq5
          refine TC.seq ?_; refine TC.region ?_; refine TL.run1 (pure_assign rfl) rfl ?_; refine TL.nil' ?_; refine TC.seq ?_; refine TC.block ?_; refine TC.loopX (X := Nat) (fun k => [(4, .sl 1 (encI b)), (5, .sl 1 (encI c)), (7, .v v), (8, .v (.int .i64 (posT c m))), (9, .v (.int .i64 k)), (10, .v (.int .i64 2))]) (fun k => [.row v 33 3 ((encTk c b).take m)]) (fun k => ((posT c m) < k) ∧ (k ≤ c.length) ∧ (∀ j, (posT c m) < j → j < k → InsP c j)) (fun k => c.length - k) ((posT c m) + 1) ⟨by (try dsimp only); rw [show ((((posT c m) + 1 : Nat)) : Int) = (((posT c m) : Nat) : Int) + 1 by omega]; repeat (first | exact Agree.nil | refine Agree.cons rfl ?_), by skip; repeat (first | exact List.nil_sublist _ | exact List.Sublist.refl _ | apply List.Sublist.cons_cons | apply List.Sublist.cons)⟩ ?_ ?_
          · skip
            exact ⟨by omega, by omega, fun j x y => by omega⟩
          intro k
          rintro ⟨k1, k2, k3⟩
          show TC _ _ _ (Env.of [(4, .sl 1 (encI b)), (5, .sl 1 (encI c)), (7, .v v), (8, .v (.int .i64 (posT c m))), (9, .v (.int .i64 k)), (10, .v (.int .i64 2))]) [.row v 33 3 ((encTk c b).take m)]
          refine TC.seq ?_; refine TC.regionCut [33, 34, 35, 36, 37, 38, 39, 40, 41] 41 (k < c.length ∧ InsP c k) ?_ ?_
          · skip
            (iterate 2 refine TL.run1 (pure_move rfl) rfl ?_); refine TL.run1 (pure_len Ty.sl35 rfl) rfl ?_; refine TL.run1 (pure_lss rfl rfl) rfl ?_; refine TL.run1 (pure_move rfl) rfl ?_; refine TL.splitP 37 rfl (fun hg37 => ?_) (fun hg37 => ?_)
            · try dsimp only at hg37
              have hk1 : k < c.length := by (first | omega | (have h := hg37; simp only [decide_eq_true_eq] at h; omega))
              (iterate 2 refine TL.runG rfl rfl (pure_move rfl) rfl ?_); refine TL.runG rfl rfl (pure_call (inside_spec c k (by omega) (by omega)) (.cons rfl (.cons rfl .nil)) Tryd.call34) rfl ?_; refine TL.run1 (pure_pick_true rfl rfl) rfl ?_; refine TL.cutEnd (by repeat (first | exact Same.refl _ _ | refine Same.put rfl ?_)) rfl ?_
              first | (simp only [decide_eq_true_eq]; omega) | (simp_all; done) | (simp_all; omega) | grind
            · try dsimp only at hg37
              (iterate 3 refine TL.passG rfl rfl rfl rfl ?_); refine TL.run1 (pure_pick_false rfl rfl) rfl ?_; refine TL.cutEnd (by repeat (first | exact Same.refl _ _ | refine Same.put rfl ?_)) rfl ?_
              first | (simp only [decide_eq_true_eq]; omega) | (simp_all; done) | (simp_all; omega) | grind
          refine TC.condD rfl (fun hc41 => ?_) (fun hc41 => ?_)
          · try dsimp only at hc41
            refine TC.skip' ?_; refine TC.block ?_; refine TC.region ?_; refine TL.run1 (pure_move rfl) rfl ?_; refine TL.run1 (pure_add rfl rfl (mkI64 (by omega) (by omega))) rfl ?_; refine TL.run1 (pure_assign rfl) rfl ?_; refine TL.nil ?_; refine block_normal ?_; refine loop_next (k + 1) ⟨by ((try dsimp only); rw [show (((k + 1 : Nat)) : Int) = (k : Int) + 1 by omega]; repeat (first | exact Agree.nil | refine Agree.cons rfl ?_)), by repeat (first | exact List.nil_sublist _ | exact List.Sublist.refl _ | apply List.Sublist.cons_cons | apply List.Sublist.cons)⟩ ⟨by omega, by omega, fun j x y => by rcases Nat.lt_or_eq_of_le (Nat.le_of_lt_succ y) with h | h; exact k3 j x h; rw [h]; exact hc41.2⟩ (by omega)
          · try dsimp only at hc41
            have hst : k = c.length ∨ ¬ InsP c k := by (by_cases hx : k = c.length; exact .inl hx; exact .inr (fun h => hc41 ⟨by omega, h⟩))
            refine TC.exit ?_; refine then_exit ?_; refine loop_exit ?_; refine block_here ?_; refine then_normal ?_; refine TC.seq ?_; refine TC.region ?_; refine TL.run1 (pure_move rfl) rfl ?_; refine TL.run1 (pure_assign rfl) rfl ?_; refine TL.nil' ?_; refine TC.block ?_; refine TC.loopX (X := Nat) (fun j => [(4, .sl 1 (encI b)), (5, .sl 1 (encI c)), (7, .v v), (8, .v (.int .i64 (posT c m))), (9, .v (.int .i64 k)), (10, .v (.int .i64 (wkTo c (posT c m) (j - (posT c m))))), (11, .v (.int .i64 j))]) (fun j => [.row v 33 3 ((encTk c b).take m)]) (fun j => ((posT c m) ≤ j) ∧ (j ≤ k)) (fun j => k - j) ((posT c m)) ⟨by (try dsimp only); rw [Nat.sub_self, wkTo]; repeat (first | exact Agree.nil | refine Agree.cons rfl ?_), by skip; repeat (first | exact List.nil_sublist _ | exact List.Sublist.refl _ | apply List.Sublist.cons_cons | apply List.Sublist.cons)⟩ ?_ ?_
            · skip
              exact ⟨Nat.le_refl _, by omega⟩
            intro j
            rintro ⟨j1, j2⟩
            show TC _ _ _ (Env.of [(4, .sl 1 (encI b)), (5, .sl 1 (encI c)), (7, .v v), (8, .v (.int .i64 (posT c m))), (9, .v (.int .i64 k)), (10, .v (.int .i64 (wkTo c (posT c m) (j - (posT c m))))), (11, .v (.int .i64 j))]) [.row v 33 3 ((encTk c b).take m)]
            (iterate 2 refine TC.seq ?_); refine TC.region ?_; (iterate 2 refine TL.run1 (pure_move rfl) rfl ?_); refine TL.run1 (pure_lss rfl rfl) rfl ?_; refine TL.nil' ?_; refine TC.condD rfl (fun hc47 => ?_) (fun hc47 => ?_)
            · try dsimp only at hc47
              refine TC.skip' ?_; refine TC.seq ?_; refine TC.block ?_; refine TC.seq ?_
              have hrj : (encI c)[((j : Nat) : Int).toNat]? = some [.v (.int .i64 (iAt c j))] := encI_get c j (by omega) (by omega)
              refine TC.region ?_; (iterate 2 refine TL.run1 (pure_move rfl) rfl ?_); refine TL.run1 (pure_indexAddr Ty.sl35 rfl rfl (by omega) hrj (List.cons_ne_nil _ _)) rfl ?_; refine TL.run1 (pure_load1 Ty.one3 rfl) rfl ?_; refine TL.run1 (pure_eql rfl rfl) rfl ?_; refine TL.nil' ?_; refine TC.condD rfl (fun hc54 => ?_) (fun hc54 => ?_)
              · try dsimp only at hc54
                refine TC.region ?_; refine TL.run1 (pure_assign rfl) rfl ?_; refine TL.nil ?_; refine block_normal ?_; refine then_normal ?_; refine TC.region ?_; refine TL.run1 (pure_move rfl) rfl ?_; refine TL.run1 (pure_add rfl rfl (mkI64 (by omega) (by omega))) rfl ?_; refine TL.run1 (pure_assign rfl) rfl ?_; refine TL.nil ?_
                have hwk : wkTo c (posT c m) (j + 1 - (posT c m)) = 1 := by (rw [show j + 1 - (posT c m) = (j - (posT c m)) + 1 by omega, wkTo, show (posT c m) + (j - (posT c m)) = j by omega, if_pos hc54])
                refine loop_next (j + 1) ⟨by ((try dsimp only); rw [hwk, show (((j + 1 : Nat)) : Int) = (j : Int) + 1 by omega]; repeat (first | exact Agree.nil | refine Agree.cons rfl ?_)), by repeat (first | exact List.nil_sublist _ | exact List.Sublist.refl _ | apply List.Sublist.cons_cons | apply List.Sublist.cons)⟩ ⟨by omega, by omega⟩ (by omega)
              · try dsimp only at hc54
                refine TC.skip ?_; refine block_normal ?_; refine then_normal ?_; refine TC.region ?_; refine TL.run1 (pure_move rfl) rfl ?_; refine TL.run1 (pure_add rfl rfl (mkI64 (by omega) (by omega))) rfl ?_; refine TL.run1 (pure_assign rfl) rfl ?_; refine TL.nil ?_
                have hwk : wkTo c (posT c m) (j + 1 - (posT c m)) = wkTo c (posT c m) (j - (posT c m)) := by (rw [show j + 1 - (posT c m) = (j - (posT c m)) + 1 by omega, wkTo, show (posT c m) + (j - (posT c m)) = j by omega, if_neg hc54])
                refine loop_next (j + 1) ⟨by ((try dsimp only); rw [hwk, show (((j + 1 : Nat)) : Int) = (j : Int) + 1 by omega]; repeat (first | exact Agree.nil | refine Agree.cons rfl ?_)), by repeat (first | exact List.nil_sublist _ | exact List.Sublist.refl _ | apply List.Sublist.cons_cons | apply List.Sublist.cons)⟩ ⟨by omega, by omega⟩ (by omega)
            · try dsimp only at hc47
              refine TC.exit ?_; refine then_exit ?_; refine loop_exit ?_; refine block_here ?_; refine block_normal ?_; refine then_normal ?_; refine TC.seq ?_
              have hek : endT c (posT c m) = k := endW_eq hw (by omega) (by omega) k3 hst
              have hjk : j = k := by omega
              subst hjk
              have hkd : kindT c (posT c m) = wkTo c (posT c m) (j - posT c m) := by unfold kindT; rw [if_pos hw, hek]
              have hps : posT c (m + 1) = endT c (posT c m) := by rw [posT, if_pos hpl]
              have hrb : (encI b)[((posT c m : Nat) : Int).toNat]? = some [.v (.int .i64 (iAt b ((posT c m : Nat) : Int)))] := encI_get b _ (by omega) (by omega)
              have hrk : (encI b)[((j : Nat) : Int).toNat]? = some [.v (.int .i64 (iAt b ((j : Nat) : Int)))] := encI_get b ((j : Nat) : Int) (by omega) (by omega)
              have htk : tkAt c b m = [.v (.int .i64 (wkTo c (posT c m) (j - posT c m))), .v (.int .i64 (iAt b ((posT c m : Nat) : Int))), .v (.int .i64 (iAt b ((j : Nat) : Int)))] := by (unfold tkAt; rw [hps, hkd, hek])
              have htt := encTk_take c b m (nT_lt.2 hpl)
              refine TC.drawTailN 12 Ty.follows (by kernel_rfl) (by kernel_rfl) ?_
              simp only [List.take_succ_cons, List.take_zero, List.drop_succ_cons, List.drop_zero]
              (iterate 4 refine TD.run1 (pure_move rfl) rfl ?_); refine TD.run1 (pure_indexAddr Ty.sl35 rfl rfl (by omega) hrb (List.cons_ne_nil _ _)) rfl ?_; refine TD.run1 (pure_load1 Ty.one3 rfl) rfl ?_; (iterate 2 refine TD.run1 (pure_move rfl) rfl ?_); refine TD.run1 (pure_indexAddr Ty.sl35 rfl rfl (by omega) hrk (List.cons_ne_nil _ _)) rfl ?_; refine TD.run1 (pure_load1 Ty.one3 rfl) rfl ?_; refine TD.run1 (pure_build3 Ty.pl33 Ty.zero33 rfl rfl rfl) rfl ?_; refine TD.run1 (pure_buildSlice (xs := [.tmp 92]) Ty.app27 (by decide) rfl rfl (.cons rfl (.agg _) rfl .nil)) rfl ?_; refine TD.nil ?_
              show TL _ _ _ _ _ _
              have hlt0 : ((encTk c b).take m).length ≤ m := by rw [List.length_take]; omega
              have hmm := nT_lt.2 hpl
              have hnn := nT_le c
              refine TL.append Ty.app27 rfl rfl (by intro _; repeat (first | exact UpdR.here _ | apply UpdR.there)) (by simp only [List.length_append, List.length_cons, List.length_nil]; omega) (by simp only [List.length_append, List.length_cons, List.length_nil]; omega) rfl (fun v94 hv94 => ?_); refine TL.run1 (pure_assign rfl) rfl ?_; refine TL.nil' ?_; refine TC.region ?_; refine TL.run1 (pure_move rfl) rfl ?_; refine TL.run1 (pure_assign rfl) rfl ?_; refine TL.nil ?_; refine block_normal ?_
              have hgt := posT_lt hpl
              have hpk : ((posT c (m + 1) : Nat) : Int) = ((j : Nat) : Int) := by rw [hps, hek]
              refine loop_next (m + 1, v94) ⟨by (dsimp only; rw [hpk]; repeat (first | exact Agree.nil | refine Agree.cons rfl ?_)), by dsimp only; rw [htt, htk]; repeat (first | exact List.nil_sublist _ | exact List.Sublist.refl _ | apply List.Sublist.cons_cons | apply List.Sublist.cons)⟩ (fun j h => by rcases Nat.lt_or_eq_of_le (Nat.le_of_lt_succ h) with h | h; exact hm j h; rw [h]; exact hpl) (by dsimp only; have := posT_le c (m + 1); omega)
        · try dsimp only at hc30
          exact absurd hq5 hc30
      · try dsimp only at hc30
        have hn5 := hc30
        refine TC.region ?_; refine TL.run1 (pure_eql rfl rfl) rfl ?_; refine TL.run1 (pure_assign rfl) rfl ?_; refine TL.nil' ?_; refine TC.condD rfl (fun hc30 => ?_) (fun hc30 => ?_)
        · try dsimp only at hc30
          have hw : WrdP c (posT c m) := .inr hc30
          refine TC.seq ?_; refine TC.region ?_; refine TL.run1 (pure_assign rfl) rfl ?_; refine TL.nil' ?_; refine TC.seq ?_; refine TC.block ?_; refine TC.loopX (X := Nat) (fun k => [(4, .sl 1 (encI b)), (5, .sl 1 (encI c)), (7, .v v), (8, .v (.int .i64 (posT c m))), (9, .v (.int .i64 k)), (10, .v (.int .i64 2))]) (fun k => [.row v 33 3 ((encTk c b).take m)]) (fun k => ((posT c m) < k) ∧ (k ≤ c.length) ∧ (∀ j, (posT c m) < j → j < k → InsP c j)) (fun k => c.length - k) ((posT c m) + 1) ⟨by (try dsimp only); rw [show ((((posT c m) + 1 : Nat)) : Int) = (((posT c m) : Nat) : Int) + 1 by omega]; repeat (first | exact Agree.nil | refine Agree.cons rfl ?_), by skip; repeat (first | exact List.nil_sublist _ | exact List.Sublist.refl _ | apply List.Sublist.cons_cons | apply List.Sublist.cons)⟩ ?_ ?_
          · skip
            exact ⟨by omega, by omega, fun j x y => by omega⟩
          intro k
          rintro ⟨k1, k2, k3⟩
          show TC _ _ _ (Env.of [(4, .sl 1 (encI b)), (5, .sl 1 (encI c)), (7, .v v), (8, .v (.int .i64 (posT c m))), (9, .v (.int .i64 k)), (10, .v (.int .i64 2))]) [.row v 33 3 ((encTk c b).take m)]
          refine TC.seq ?_; refine TC.regionCut [33, 34, 35, 36, 37, 38, 39, 40, 41] 41 (k < c.length ∧ InsP c k) ?_ ?_
          · skip
            (iterate 2 refine TL.run1 (pure_move rfl) rfl ?_); refine TL.run1 (pure_len Ty.sl35 rfl) rfl ?_; refine TL.run1 (pure_lss rfl rfl) rfl ?_; refine TL.run1 (pure_move rfl) rfl ?_; refine TL.splitP 37 rfl (fun hg37 => ?_) (fun hg37 => ?_)
            · try dsimp only at hg37
              have hk1 : k < c.length := by (first | omega | (have h := hg37; simp only [decide_eq_true_eq] at h; omega))
              (iterate 2 refine TL.runG rfl rfl (pure_move rfl) rfl ?_); refine TL.runG rfl rfl (pure_call (inside_spec c k (by omega) (by omega)) (.cons rfl (.cons rfl .nil)) Tryd.call34) rfl ?_; refine TL.run1 (pure_pick_true rfl rfl) rfl ?_; refine TL.cutEnd (by repeat (first | exact Same.refl _ _ | refine Same.put rfl ?_)) rfl ?_
              first | (simp only [decide_eq_true_eq]; omega) | (simp_all; done) | (simp_all; omega) | grind
            · try dsimp only at hg37
              (iterate 3 refine TL.passG rfl rfl rfl rfl ?_); refine TL.run1 (pure_pick_false rfl rfl) rfl ?_; refine TL.cutEnd (by repeat (first | exact Same.refl _ _ | refine Same.put rfl ?_)) rfl ?_
              first | (simp only [decide_eq_true_eq]; omega) | (simp_all; done) | (simp_all; omega) | grind
          refine TC.condD rfl (fun hc41 => ?_) (fun hc41 => ?_)
          · try dsimp only at hc41
            refine TC.skip' ?_; refine TC.block ?_; refine TC.region ?_; refine TL.run1 (pure_move rfl) rfl ?_; refine TL.run1 (pure_add rfl rfl (mkI64 (by omega) (by omega))) rfl ?_; refine TL.run1 (pure_assign rfl) rfl ?_; refine TL.nil ?_; refine block_normal ?_; refine loop_next (k + 1) ⟨by ((try dsimp only); rw [show (((k + 1 : Nat)) : Int) = (k : Int) + 1 by omega]; repeat (first | exact Agree.nil | refine Agree.cons rfl ?_)), by repeat (first | exact List.nil_sublist _ | exact List.Sublist.refl _ | apply List.Sublist.cons_cons | apply List.Sublist.cons)⟩ ⟨by omega, by omega, fun j x y => by rcases Nat.lt_or_eq_of_le (Nat.le_of_lt_succ y) with h | h; exact k3 j x h; rw [h]; exact hc41.2⟩ (by omega)
          · try dsimp only at hc41
            have hst : k = c.length ∨ ¬ InsP c k := by (by_cases hx : k = c.length; exact .inl hx; exact .inr (fun h => hc41 ⟨by omega, h⟩))
            refine TC.exit ?_; refine then_exit ?_; refine loop_exit ?_; refine block_here ?_; refine then_normal ?_; refine TC.seq ?_; refine TC.region ?_; refine TL.run1 (pure_move rfl) rfl ?_; refine TL.run1 (pure_assign rfl) rfl ?_; refine TL.nil' ?_; refine TC.block ?_; refine TC.loopX (X := Nat) (fun j => [(4, .sl 1 (encI b)), (5, .sl 1 (encI c)), (7, .v v), (8, .v (.int .i64 (posT c m))), (9, .v (.int .i64 k)), (10, .v (.int .i64 (wkTo c (posT c m) (j - (posT c m))))), (11, .v (.int .i64 j))]) (fun j => [.row v 33 3 ((encTk c b).take m)]) (fun j => ((posT c m) ≤ j) ∧ (j ≤ k)) (fun j => k - j) ((posT c m)) ⟨by (try dsimp only); rw [Nat.sub_self, wkTo]; repeat (first | exact Agree.nil | refine Agree.cons rfl ?_), by skip; repeat (first | exact List.nil_sublist _ | exact List.Sublist.refl _ | apply List.Sublist.cons_cons | apply List.Sublist.cons)⟩ ?_ ?_
            · skip
              exact ⟨Nat.le_refl _, by omega⟩
            intro j
            rintro ⟨j1, j2⟩
            show TC _ _ _ (Env.of [(4, .sl 1 (encI b)), (5, .sl 1 (encI c)), (7, .v v), (8, .v (.int .i64 (posT c m))), (9, .v (.int .i64 k)), (10, .v (.int .i64 (wkTo c (posT c m) (j - (posT c m))))), (11, .v (.int .i64 j))]) [.row v 33 3 ((encTk c b).take m)]
            (iterate 2 refine TC.seq ?_); refine TC.region ?_; (iterate 2 refine TL.run1 (pure_move rfl) rfl ?_); refine TL.run1 (pure_lss rfl rfl) rfl ?_; refine TL.nil' ?_; refine TC.condD rfl (fun hc47 => ?_) (fun hc47 => ?_)
            · try dsimp only at hc47
              refine TC.skip' ?_; refine TC.seq ?_; refine TC.block ?_; refine TC.seq ?_
              have hrj : (encI c)[((j : Nat) : Int).toNat]? = some [.v (.int .i64 (iAt c j))] := encI_get c j (by omega) (by omega)
              refine TC.region ?_; (iterate 2 refine TL.run1 (pure_move rfl) rfl ?_); refine TL.run1 (pure_indexAddr Ty.sl35 rfl rfl (by omega) hrj (List.cons_ne_nil _ _)) rfl ?_; refine TL.run1 (pure_load1 Ty.one3 rfl) rfl ?_; refine TL.run1 (pure_eql rfl rfl) rfl ?_; refine TL.nil' ?_; refine TC.condD rfl (fun hc54 => ?_) (fun hc54 => ?_)
              · try dsimp only at hc54
                refine TC.region ?_; refine TL.run1 (pure_assign rfl) rfl ?_; refine TL.nil ?_; refine block_normal ?_; refine then_normal ?_; refine TC.region ?_; refine TL.run1 (pure_move rfl) rfl ?_; refine TL.run1 (pure_add rfl rfl (mkI64 (by omega) (by omega))) rfl ?_; refine TL.run1 (pure_assign rfl) rfl ?_; refine TL.nil ?_
                have hwk : wkTo c (posT c m) (j + 1 - (posT c m)) = 1 := by (rw [show j + 1 - (posT c m) = (j - (posT c m)) + 1 by omega, wkTo, show (posT c m) + (j - (posT c m)) = j by omega, if_pos hc54])
                refine loop_next (j + 1) ⟨by ((try dsimp only); rw [hwk, show (((j + 1 : Nat)) : Int) = (j : Int) + 1 by omega]; repeat (first | exact Agree.nil | refine Agree.cons rfl ?_)), by repeat (first | exact List.nil_sublist _ | exact List.Sublist.refl _ | apply List.Sublist.cons_cons | apply List.Sublist.cons)⟩ ⟨by omega, by omega⟩ (by omega)
              · try dsimp only at hc54
                refine TC.skip ?_; refine block_normal ?_; refine then_normal ?_; refine TC.region ?_; refine TL.run1 (pure_move rfl) rfl ?_; refine TL.run1 (pure_add rfl rfl (mkI64 (by omega) (by omega))) rfl ?_; refine TL.run1 (pure_assign rfl) rfl ?_; refine TL.nil ?_
                have hwk : wkTo c (posT c m) (j + 1 - (posT c m)) = wkTo c (posT c m) (j - (posT c m)) := by (rw [show j + 1 - (posT c m) = (j - (posT c m)) + 1 by omega, wkTo, show (posT c m) + (j - (posT c m)) = j by omega, if_neg hc54])
                refine loop_next (j + 1) ⟨by ((try dsimp only); rw [hwk, show (((j + 1 : Nat)) : Int) = (j : Int) + 1 by omega]; repeat (first | exact Agree.nil | refine Agree.cons rfl ?_)), by repeat (first | exact List.nil_sublist _ | exact List.Sublist.refl _ | apply List.Sublist.cons_cons | apply List.Sublist.cons)⟩ ⟨by omega, by omega⟩ (by omega)
            · try dsimp only at hc47
              refine TC.exit ?_; refine then_exit ?_; refine loop_exit ?_; refine block_here ?_; refine block_normal ?_; refine then_normal ?_; refine TC.seq ?_
              have hek : endT c (posT c m) = k := endW_eq hw (by omega) (by omega) k3 hst
              have hjk : j = k := by omega
              subst hjk
              have hkd : kindT c (posT c m) = wkTo c (posT c m) (j - posT c m) := by unfold kindT; rw [if_pos hw, hek]
              have hps : posT c (m + 1) = endT c (posT c m) := by rw [posT, if_pos hpl]
              have hrb : (encI b)[((posT c m : Nat) : Int).toNat]? = some [.v (.int .i64 (iAt b ((posT c m : Nat) : Int)))] := encI_get b _ (by omega) (by omega)
              have hrk : (encI b)[((j : Nat) : Int).toNat]? = some [.v (.int .i64 (iAt b ((j : Nat) : Int)))] := encI_get b ((j : Nat) : Int) (by omega) (by omega)
              have htk : tkAt c b m = [.v (.int .i64 (wkTo c (posT c m) (j - posT c m))), .v (.int .i64 (iAt b ((posT c m : Nat) : Int))), .v (.int .i64 (iAt b ((j : Nat) : Int)))] := by (unfold tkAt; rw [hps, hkd, hek])
              have htt := encTk_take c b m (nT_lt.2 hpl)
              refine TC.drawTailN 12 Ty.follows (by kernel_rfl) (by kernel_rfl) ?_
              simp only [List.take_succ_cons, List.take_zero, List.drop_succ_cons, List.drop_zero]
              (iterate 4 refine TD.run1 (pure_move rfl) rfl ?_); refine TD.run1 (pure_indexAddr Ty.sl35 rfl rfl (by omega) hrb (List.cons_ne_nil _ _)) rfl ?_; refine TD.run1 (pure_load1 Ty.one3 rfl) rfl ?_; (iterate 2 refine TD.run1 (pure_move rfl) rfl ?_); refine TD.run1 (pure_indexAddr Ty.sl35 rfl rfl (by omega) hrk (List.cons_ne_nil _ _)) rfl ?_; refine TD.run1 (pure_load1 Ty.one3 rfl) rfl ?_; refine TD.run1 (pure_build3 Ty.pl33 Ty.zero33 rfl rfl rfl) rfl ?_; refine TD.run1 (pure_buildSlice (xs := [.tmp 92]) Ty.app27 (by decide) rfl rfl (.cons rfl (.agg _) rfl .nil)) rfl ?_; refine TD.nil ?_
              show TL _ _ _ _ _ _
              have hlt0 : ((encTk c b).take m).length ≤ m := by rw [List.length_take]; omega
              have hmm := nT_lt.2 hpl
              have hnn := nT_le c
              refine TL.append Ty.app27 rfl rfl (by intro _; repeat (first | exact UpdR.here _ | apply UpdR.there)) (by simp only [List.length_append, List.length_cons, List.length_nil]; omega) (by simp only [List.length_append, List.length_cons, List.length_nil]; omega) rfl (fun v94 hv94 => ?_); refine TL.run1 (pure_assign rfl) rfl ?_; refine TL.nil' ?_; refine TC.region ?_; refine TL.run1 (pure_move rfl) rfl ?_; refine TL.run1 (pure_assign rfl) rfl ?_; refine TL.nil ?_; refine block_normal ?_
              have hgt := posT_lt hpl
              have hpk : ((posT c (m + 1) : Nat) : Int) = ((j : Nat) : Int) := by rw [hps, hek]
              refine loop_next (m + 1, v94) ⟨by (dsimp only; rw [hpk]; repeat (first | exact Agree.nil | refine Agree.cons rfl ?_)), by dsimp only; rw [htt, htk]; repeat (first | exact List.nil_sublist _ | exact List.Sublist.refl _ | apply List.Sublist.cons_cons | apply List.Sublist.cons)⟩ (fun j h => by rcases Nat.lt_or_eq_of_le (Nat.le_of_lt_succ h) with h | h; exact hm j h; rw [h]; exact hpl) (by dsimp only; have := posT_le c (m + 1); omega)
        · try dsimp only at hc30
          have hw : ¬ WrdP c (posT c m) := by rintro (h | h); exact hn5 h; exact hc30 h
          (iterate 2 refine TC.seq ?_); refine TC.region ?_; refine TL.run1 (pure_eql rfl rfl) rfl ?_; refine TL.run1 (pure_assign rfl) rfl ?_; refine TL.nil' ?_; refine TC.condD rfl (fun hc55 => ?_) (fun hc55 => ?_)
          · try dsimp only at hc55
            have hq2 := hc55
            refine TC.skip' ?_; refine TC.condD rfl (fun hc55 => ?_) (fun hc55 => ?_)
            · try dsimp only at hc55
              have hb : BlkP c (posT c m) := .inl hq2
              refine TC.seq ?_; refine TC.region ?_; refine TL.run1 (pure_assign rfl) rfl ?_; refine TL.nil' ?_; refine TC.block ?_; refine TC.loopX (X := Nat) (fun k => [(4, .sl 1 (encI b)), (5, .sl 1 (encI c)), (7, .v v), (8, .v (.int .i64 (posT c m))), (9, .v (.int .i64 k)), (10, .v (.int .i64 3))]) (fun k => [.row v 33 3 ((encTk c b).take m)]) (fun k => ((posT c m) < k) ∧ (k ≤ c.length) ∧ (∀ j, (posT c m) < j → j < k → BlkP c j)) (fun k => c.length - k) ((posT c m) + 1) ⟨by (try dsimp only); rw [show ((((posT c m) + 1 : Nat)) : Int) = (((posT c m) : Nat) : Int) + 1 by omega]; repeat (first | exact Agree.nil | refine Agree.cons rfl ?_), by skip; repeat (first | exact List.nil_sublist _ | exact List.Sublist.refl _ | apply List.Sublist.cons_cons | apply List.Sublist.cons)⟩ ?_ ?_
              · skip
                exact ⟨by omega, by omega, fun j x y => by omega⟩
              intro k
              rintro ⟨k1, k2, k3⟩
              show TC _ _ _ (Env.of [(4, .sl 1 (encI b)), (5, .sl 1 (encI c)), (7, .v v), (8, .v (.int .i64 (posT c m))), (9, .v (.int .i64 k)), (10, .v (.int .i64 3))]) [.row v 33 3 ((encTk c b).take m)]
              refine TC.seq ?_; refine TC.regionCut [58, 59, 60, 61, 62, 63, 64, 65, 66, 67, 68, 69, 70, 71, 72, 73, 74, 75] 75 (k < c.length ∧ (iAt c k = 2 ∨ iAt c k = 3)) ?_ ?_
              · skip
                (iterate 2 refine TL.run1 (pure_move rfl) rfl ?_); refine TL.run1 (pure_len Ty.sl35 rfl) rfl ?_; refine TL.run1 (pure_lss rfl rfl) rfl ?_; refine TL.run1 (pure_move rfl) rfl ?_; refine TL.splitP 62 rfl (fun hg62 => ?_) (fun hg62 => ?_)
                · try dsimp only at hg62
                  have hk1 : k < c.length := by (first | omega | (have h := hg62; simp only [decide_eq_true_eq] at h; omega))
                  have hrk0 : (encI c)[((k : Nat) : Int).toNat]? = some [.v (.int .i64 (iAt c k))] := encI_get c k (by omega) (by omega)
                  (iterate 2 refine TL.runG rfl rfl (pure_move rfl) rfl ?_); refine TL.runG rfl rfl (pure_indexAddr Ty.sl35 rfl rfl (by omega) hrk0 (List.cons_ne_nil _ _)) rfl ?_; refine TL.runG rfl rfl (pure_load1 Ty.one3 rfl) rfl ?_; refine TL.runG rfl rfl (pure_eql rfl rfl) rfl ?_; refine TL.runG rfl rfl (pure_move rfl) rfl ?_; refine TL.splitP 68 rfl (fun hg68 => ?_) (fun hg68 => ?_)
                  · try dsimp only at hg68
                    (iterate 5 refine TL.passG rfl rfl rfl rfl ?_); refine TL.runG rfl rfl (pure_pick_true rfl rfl) rfl ?_; refine TL.run1 (pure_pick_true rfl rfl) rfl ?_; refine TL.cutEnd (by repeat (first | exact Same.refl _ _ | refine Same.put rfl ?_)) rfl ?_
                    first | (simp only [decide_eq_true_eq, Bool.false_eq_true, false_iff, true_iff, iff_true, iff_false, Bool.not_eq_true]; omega) | (simp_all; done) | (simp_all; omega) | grind
                  · try dsimp only at hg68
                    (iterate 2 refine TL.runG rfl rfl (pure_move rfl) rfl ?_); refine TL.runG rfl rfl (pure_indexAddr Ty.sl35 rfl rfl (by omega) hrk0 (List.cons_ne_nil _ _)) rfl ?_; refine TL.runG rfl rfl (pure_load1 Ty.one3 rfl) rfl ?_; refine TL.runG rfl rfl (pure_eql rfl rfl) rfl ?_; refine TL.runG rfl rfl (pure_pick_false rfl rfl) rfl ?_; refine TL.run1 (pure_pick_true rfl rfl) rfl ?_; refine TL.cutEnd (by repeat (first | exact Same.refl _ _ | refine Same.put rfl ?_)) rfl ?_
                    first | (simp only [decide_eq_true_eq, Bool.false_eq_true, false_iff, true_iff, iff_true, iff_false, Bool.not_eq_true]; omega) | (simp_all; done) | (simp_all; omega) | grind
                · try dsimp only at hg62
                  (iterate 12 refine TL.passG rfl rfl rfl rfl ?_); refine TL.run1 (pure_pick_false rfl rfl) rfl ?_; refine TL.cutEnd (by repeat (first | exact Same.refl _ _ | refine Same.put rfl ?_)) rfl ?_
                  first | (simp only [decide_eq_true_eq, Bool.false_eq_true, false_iff, true_iff, iff_true, iff_false, Bool.not_eq_true]; omega) | (simp_all; done) | (simp_all; omega) | grind
              refine TC.condD rfl (fun hc75 => ?_) (fun hc75 => ?_)
              · try dsimp only at hc75
                refine TC.skip' ?_; refine TC.block ?_; refine TC.region ?_; refine TL.run1 (pure_move rfl) rfl ?_; refine TL.run1 (pure_add rfl rfl (mkI64 (by omega) (by omega))) rfl ?_; refine TL.run1 (pure_assign rfl) rfl ?_; refine TL.nil ?_; refine block_normal ?_; refine loop_next (k + 1) ⟨by ((try dsimp only); rw [show (((k + 1 : Nat)) : Int) = (k : Int) + 1 by omega]; repeat (first | exact Agree.nil | refine Agree.cons rfl ?_)), by repeat (first | exact List.nil_sublist _ | exact List.Sublist.refl _ | apply List.Sublist.cons_cons | apply List.Sublist.cons)⟩ ⟨by omega, by omega, fun j x y => by rcases Nat.lt_or_eq_of_le (Nat.le_of_lt_succ y) with h | h; exact k3 j x h; rw [h]; exact hc75.2⟩ (by omega)
              · try dsimp only at hc75
                have hst : k = c.length ∨ ¬ BlkP c k := by (by_cases hx : k = c.length; exact .inl hx; exact .inr (fun h => hc75 ⟨by omega, h⟩))
                refine TC.exit ?_; refine then_exit ?_; refine loop_exit ?_; refine block_here ?_; refine block_normal ?_; refine then_normal ?_; refine TC.seq ?_
                have hek : endT c (posT c m) = k := endB_eq hw hb (by omega) (by omega) k3 hst
                have hkd : kindT c (posT c m) = 3 := by unfold kindT; rw [if_neg hw, if_pos hb]
                have hps : posT c (m + 1) = endT c (posT c m) := by rw [posT, if_pos hpl]
                have hrb : (encI b)[((posT c m : Nat) : Int).toNat]? = some [.v (.int .i64 (iAt b ((posT c m : Nat) : Int)))] := encI_get b _ (by omega) (by omega)
                have hrk : (encI b)[((k : Nat) : Int).toNat]? = some [.v (.int .i64 (iAt b ((k : Nat) : Int)))] := encI_get b ((k : Nat) : Int) (by omega) (by omega)
                have htk : tkAt c b m = [.v (.int .i64 (3)), .v (.int .i64 (iAt b ((posT c m : Nat) : Int))), .v (.int .i64 (iAt b ((k : Nat) : Int)))] := by (unfold tkAt; rw [hps, hkd, hek])
                have htt := encTk_take c b m (nT_lt.2 hpl)
                refine TC.drawTailN 12 Ty.follows (by kernel_rfl) (by kernel_rfl) ?_
                simp only [List.take_succ_cons, List.take_zero, List.drop_succ_cons, List.drop_zero]
                (iterate 4 refine TD.run1 (pure_move rfl) rfl ?_); refine TD.run1 (pure_indexAddr Ty.sl35 rfl rfl (by omega) hrb (List.cons_ne_nil _ _)) rfl ?_; refine TD.run1 (pure_load1 Ty.one3 rfl) rfl ?_; (iterate 2 refine TD.run1 (pure_move rfl) rfl ?_); refine TD.run1 (pure_indexAddr Ty.sl35 rfl rfl (by omega) hrk (List.cons_ne_nil _ _)) rfl ?_; refine TD.run1 (pure_load1 Ty.one3 rfl) rfl ?_; refine TD.run1 (pure_build3 Ty.pl33 Ty.zero33 rfl rfl rfl) rfl ?_; refine TD.run1 (pure_buildSlice (xs := [.tmp 92]) Ty.app27 (by decide) rfl rfl (.cons rfl (.agg _) rfl .nil)) rfl ?_; refine TD.nil ?_
                show TL _ _ _ _ _ _
                have hlt0 : ((encTk c b).take m).length ≤ m := by rw [List.length_take]; omega
                have hmm := nT_lt.2 hpl
                have hnn := nT_le c
                refine TL.append Ty.app27 rfl rfl (by intro _; repeat (first | exact UpdR.here _ | apply UpdR.there)) (by simp only [List.length_append, List.length_cons, List.length_nil]; omega) (by simp only [List.length_append, List.length_cons, List.length_nil]; omega) rfl (fun v94 hv94 => ?_); refine TL.run1 (pure_assign rfl) rfl ?_; refine TL.nil' ?_; refine TC.region ?_; refine TL.run1 (pure_move rfl) rfl ?_; refine TL.run1 (pure_assign rfl) rfl ?_; refine TL.nil ?_; refine block_normal ?_
                have hgt := posT_lt hpl
                have hpk : ((posT c (m + 1) : Nat) : Int) = ((k : Nat) : Int) := by rw [hps, hek]
                refine loop_next (m + 1, v94) ⟨by (dsimp only; rw [hpk]; repeat (first | exact Agree.nil | refine Agree.cons rfl ?_)), by dsimp only; rw [htt, htk]; repeat (first | exact List.nil_sublist _ | exact List.Sublist.refl _ | apply List.Sublist.cons_cons | apply List.Sublist.cons)⟩ (fun j h => by rcases Nat.lt_or_eq_of_le (Nat.le_of_lt_succ h) with h | h; exact hm j h; rw [h]; exact hpl) (by dsimp only; have := posT_le c (m + 1); omega)
            · try dsimp only at hc55
              exact absurd hq2 hc55
          · try dsimp only at hc55
            have hn2 := hc55
            refine TC.region ?_; refine TL.run1 (pure_eql rfl rfl) rfl ?_; refine TL.run1 (pure_assign rfl) rfl ?_; refine TL.nil' ?_; refine TC.condD rfl (fun hc55 => ?_) (fun hc55 => ?_)
            · try dsimp only at hc55
              have hb : BlkP c (posT c m) := .inr hc55
              refine TC.seq ?_; refine TC.region ?_; refine TL.run1 (pure_assign rfl) rfl ?_; refine TL.nil' ?_; refine TC.block ?_; refine TC.loopX (X := Nat) (fun k => [(4, .sl 1 (encI b)), (5, .sl 1 (encI c)), (7, .v v), (8, .v (.int .i64 (posT c m))), (9, .v (.int .i64 k)), (10, .v (.int .i64 3))]) (fun k => [.row v 33 3 ((encTk c b).take m)]) (fun k => ((posT c m) < k) ∧ (k ≤ c.length) ∧ (∀ j, (posT c m) < j → j < k → BlkP c j)) (fun k => c.length - k) ((posT c m) + 1) ⟨by (try dsimp only); rw [show ((((posT c m) + 1 : Nat)) : Int) = (((posT c m) : Nat) : Int) + 1 by omega]; repeat (first | exact Agree.nil | refine Agree.cons rfl ?_), by skip; repeat (first | exact List.nil_sublist _ | exact List.Sublist.refl _ | apply List.Sublist.cons_cons | apply List.Sublist.cons)⟩ ?_ ?_
              · skip
                exact ⟨by omega, by omega, fun j x y => by omega⟩
              intro k
              rintro ⟨k1, k2, k3⟩
              show TC _ _ _ (Env.of [(4, .sl 1 (encI b)), (5, .sl 1 (encI c)), (7, .v v), (8, .v (.int .i64 (posT c m))), (9, .v (.int .i64 k)), (10, .v (.int .i64 3))]) [.row v 33 3 ((encTk c b).take m)]
              refine TC.seq ?_; refine TC.regionCut [58, 59, 60, 61, 62, 63, 64, 65, 66, 67, 68, 69, 70, 71, 72, 73, 74, 75] 75 (k < c.length ∧ (iAt c k = 2 ∨ iAt c k = 3)) ?_ ?_
              · skip
                (iterate 2 refine TL.run1 (pure_move rfl) rfl ?_); refine TL.run1 (pure_len Ty.sl35 rfl) rfl ?_; refine TL.run1 (pure_lss rfl rfl) rfl ?_; refine TL.run1 (pure_move rfl) rfl ?_; refine TL.splitP 62 rfl (fun hg62 => ?_) (fun hg62 => ?_)
                · try dsimp only at hg62
                  have hk1 : k < c.length := by (first | omega | (have h := hg62; simp only [decide_eq_true_eq] at h; omega))
                  have hrk0 : (encI c)[((k : Nat) : Int).toNat]? = some [.v (.int .i64 (iAt c k))] := encI_get c k (by omega) (by omega)
                  (iterate 2 refine TL.runG rfl rfl (pure_move rfl) rfl ?_); refine TL.runG rfl rfl (pure_indexAddr Ty.sl35 rfl rfl (by omega) hrk0 (List.cons_ne_nil _ _)) rfl ?_; refine TL.runG rfl rfl (pure_load1 Ty.one3 rfl) rfl ?_; refine TL.runG rfl rfl (pure_eql rfl rfl) rfl ?_; refine TL.runG rfl rfl (pure_move rfl) rfl ?_; refine TL.splitP 68 rfl (fun hg68 => ?_) (fun hg68 => ?_)
                  · try dsimp only at hg68
                    (iterate 5 refine TL.passG rfl rfl rfl rfl ?_); refine TL.runG rfl rfl (pure_pick_true rfl rfl) rfl ?_; refine TL.run1 (pure_pick_true rfl rfl) rfl ?_; refine TL.cutEnd (by repeat (first | exact Same.refl _ _ | refine Same.put rfl ?_)) rfl ?_
                    first | (simp only [decide_eq_true_eq, Bool.false_eq_true, false_iff, true_iff, iff_true, iff_false, Bool.not_eq_true]; omega) | (simp_all; done) | (simp_all; omega) | grind
                  · try dsimp only at hg68
                    (iterate 2 refine TL.runG rfl rfl (pure_move rfl) rfl ?_); refine TL.runG rfl rfl (pure_indexAddr Ty.sl35 rfl rfl (by omega) hrk0 (List.cons_ne_nil _ _)) rfl ?_; refine TL.runG rfl rfl (pure_load1 Ty.one3 rfl) rfl ?_; refine TL.runG rfl rfl (pure_eql rfl rfl) rfl ?_; refine TL.runG rfl rfl (pure_pick_false rfl rfl) rfl ?_; refine TL.run1 (pure_pick_true rfl rfl) rfl ?_; refine TL.cutEnd (by repeat (first | exact Same.refl _ _ | refine Same.put rfl ?_)) rfl ?_
                    first | (simp only [decide_eq_true_eq, Bool.false_eq_true, false_iff, true_iff, iff_true, iff_false, Bool.not_eq_true]; omega) | (simp_all; done) | (simp_all; omega) | grind
                · try dsimp only at hg62
                  (iterate 12 refine TL.passG rfl rfl rfl rfl ?_); refine TL.run1 (pure_pick_false rfl rfl) rfl ?_; refine TL.cutEnd (by repeat (first | exact Same.refl _ _ | refine Same.put rfl ?_)) rfl ?_
                  first | (simp only [decide_eq_true_eq, Bool.false_eq_true, false_iff, true_iff, iff_true, iff_false, Bool.not_eq_true]; omega) | (simp_all; done) | (simp_all; omega) | grind
              refine TC.condD rfl (fun hc75 => ?_) (fun hc75 => ?_)
              · try dsimp only at hc75
                refine TC.skip' ?_; refine TC.block ?_; refine TC.region ?_; refine TL.run1 (pure_move rfl) rfl ?_; refine TL.run1 (pure_add rfl rfl (mkI64 (by omega) (by omega))) rfl ?_; refine TL.run1 (pure_assign rfl) rfl ?_; refine TL.nil ?_; refine block_normal ?_; refine loop_next (k + 1) ⟨by ((try dsimp only); rw [show (((k + 1 : Nat)) : Int) = (k : Int) + 1 by omega]; repeat (first | exact Agree.nil | refine Agree.cons rfl ?_)), by repeat (first | exact List.nil_sublist _ | exact List.Sublist.refl _ | apply List.Sublist.cons_cons | apply List.Sublist.cons)⟩ ⟨by omega, by omega, fun j x y => by rcases Nat.lt_or_eq_of_le (Nat.le_of_lt_succ y) with h | h; exact k3 j x h; rw [h]; exact hc75.2⟩ (by omega)
              · try dsimp only at hc75
                have hst : k = c.length ∨ ¬ BlkP c k := by (by_cases hx : k = c.length; exact .inl hx; exact .inr (fun h => hc75 ⟨by omega, h⟩))
                refine TC.exit ?_; refine then_exit ?_; refine loop_exit ?_; refine block_here ?_; refine block_normal ?_; refine then_normal ?_; refine TC.seq ?_
                have hek : endT c (posT c m) = k := endB_eq hw hb (by omega) (by omega) k3 hst
                have hkd : kindT c (posT c m) = 3 := by unfold kindT; rw [if_neg hw, if_pos hb]
                have hps : posT c (m + 1) = endT c (posT c m) := by rw [posT, if_pos hpl]
                have hrb : (encI b)[((posT c m : Nat) : Int).toNat]? = some [.v (.int .i64 (iAt b ((posT c m : Nat) : Int)))] := encI_get b _ (by omega) (by omega)
                have hrk : (encI b)[((k : Nat) : Int).toNat]? = some [.v (.int .i64 (iAt b ((k : Nat) : Int)))] := encI_get b ((k : Nat) : Int) (by omega) (by omega)
                have htk : tkAt c b m = [.v (.int .i64 (3)), .v (.int .i64 (iAt b ((posT c m : Nat) : Int))), .v (.int .i64 (iAt b ((k : Nat) : Int)))] := by (unfold tkAt; rw [hps, hkd, hek])
                have htt := encTk_take c b m (nT_lt.2 hpl)
                refine TC.drawTailN 12 Ty.follows (by kernel_rfl) (by kernel_rfl) ?_
                simp only [List.take_succ_cons, List.take_zero, List.drop_succ_cons, List.drop_zero]
                (iterate 4 refine TD.run1 (pure_move rfl) rfl ?_); refine TD.run1 (pure_indexAddr Ty.sl35 rfl rfl (by omega) hrb (List.cons_ne_nil _ _)) rfl ?_; refine TD.run1 (pure_load1 Ty.one3 rfl) rfl ?_; (iterate 2 refine TD.run1 (pure_move rfl) rfl ?_); refine TD.run1 (pure_indexAddr Ty.sl35 rfl rfl (by omega) hrk (List.cons_ne_nil _ _)) rfl ?_; refine TD.run1 (pure_load1 Ty.one3 rfl) rfl ?_; refine TD.run1 (pure_build3 Ty.pl33 Ty.zero33 rfl rfl rfl) rfl ?_; refine TD.run1 (pure_buildSlice (xs := [.tmp 92]) Ty.app27 (by decide) rfl rfl (.cons rfl (.agg _) rfl .nil)) rfl ?_; refine TD.nil ?_
                show TL _ _ _ _ _ _
                have hlt0 : ((encTk c b).take m).length ≤ m := by rw [List.length_take]; omega
                have hmm := nT_lt.2 hpl
                have hnn := nT_le c
                refine TL.append Ty.app27 rfl rfl (by intro _; repeat (first | exact UpdR.here _ | apply UpdR.there)) (by simp only [List.length_append, List.length_cons, List.length_nil]; omega) (by simp only [List.length_append, List.length_cons, List.length_nil]; omega) rfl (fun v94 hv94 => ?_); refine TL.run1 (pure_assign rfl) rfl ?_; refine TL.nil' ?_; refine TC.region ?_; refine TL.run1 (pure_move rfl) rfl ?_; refine TL.run1 (pure_assign rfl) rfl ?_; refine TL.nil ?_; refine block_normal ?_
                have hgt := posT_lt hpl
                have hpk : ((posT c (m + 1) : Nat) : Int) = ((k : Nat) : Int) := by rw [hps, hek]
                refine loop_next (m + 1, v94) ⟨by (dsimp only; rw [hpk]; repeat (first | exact Agree.nil | refine Agree.cons rfl ?_)), by dsimp only; rw [htt, htk]; repeat (first | exact List.nil_sublist _ | exact List.Sublist.refl _ | apply List.Sublist.cons_cons | apply List.Sublist.cons)⟩ (fun j h => by rcases Nat.lt_or_eq_of_le (Nat.le_of_lt_succ h) with h | h; exact hm j h; rw [h]; exact hpl) (by dsimp only; have := posT_le c (m + 1); omega)
            · try dsimp only at hc55
              have hb : ¬ BlkP c (posT c m) := by rintro (h | h); exact hn2 h; exact hc55 h
              refine TC.seq ?_; refine TC.region ?_; refine TL.run1 (pure_eql rfl rfl) rfl ?_; refine TL.run1 (pure_assign rfl) rfl ?_; refine TL.nil' ?_; refine TC.condD rfl (fun hc78 => ?_) (fun hc78 => ?_)
              · try dsimp only at hc78
                refine TC.region ?_; refine TL.run1 (pure_assign rfl) rfl ?_; refine TL.nil ?_; refine block_normal ?_; refine then_normal ?_; refine TC.seq ?_
                have hek : endT c (posT c m) = posT c m + 1 := endO_eq hw hb
                have hkd : kindT c (posT c m) = 6 := by (unfold kindT; rw [if_neg hw, if_neg hb, if_pos hc78])
                have hps : posT c (m + 1) = endT c (posT c m) := by rw [posT, if_pos hpl]
                have hrb : (encI b)[((posT c m : Nat) : Int).toNat]? = some [.v (.int .i64 (iAt b ((posT c m : Nat) : Int)))] := encI_get b _ (by omega) (by omega)
                have hrk : (encI b)[(((posT c m : Nat) : Int) + 1).toNat]? = some [.v (.int .i64 (iAt b (((posT c m : Nat) : Int) + 1)))] := encI_get b (((posT c m : Nat) : Int) + 1) (by omega) (by omega)
                have htk : tkAt c b m = [.v (.int .i64 (6)), .v (.int .i64 (iAt b ((posT c m : Nat) : Int))), .v (.int .i64 (iAt b (((posT c m : Nat) : Int) + 1)))] := by (unfold tkAt; rw [hps, hkd, hek]; rfl)
                have htt := encTk_take c b m (nT_lt.2 hpl)
                refine TC.drawTailN 12 Ty.follows (by kernel_rfl) (by kernel_rfl) ?_
                simp only [List.take_succ_cons, List.take_zero, List.drop_succ_cons, List.drop_zero]
                (iterate 4 refine TD.run1 (pure_move rfl) rfl ?_); refine TD.run1 (pure_indexAddr Ty.sl35 rfl rfl (by omega) hrb (List.cons_ne_nil _ _)) rfl ?_; refine TD.run1 (pure_load1 Ty.one3 rfl) rfl ?_; (iterate 2 refine TD.run1 (pure_move rfl) rfl ?_); refine TD.run1 (pure_indexAddr Ty.sl35 rfl rfl (by omega) hrk (List.cons_ne_nil _ _)) rfl ?_; refine TD.run1 (pure_load1 Ty.one3 rfl) rfl ?_; refine TD.run1 (pure_build3 Ty.pl33 Ty.zero33 rfl rfl rfl) rfl ?_; refine TD.run1 (pure_buildSlice (xs := [.tmp 92]) Ty.app27 (by decide) rfl rfl (.cons rfl (.agg _) rfl .nil)) rfl ?_; refine TD.nil ?_
                show TL _ _ _ _ _ _
                have hlt0 : ((encTk c b).take m).length ≤ m := by rw [List.length_take]; omega
                have hmm := nT_lt.2 hpl
                have hnn := nT_le c
                refine TL.append Ty.app27 rfl rfl (by intro _; repeat (first | exact UpdR.here _ | apply UpdR.there)) (by simp only [List.length_append, List.length_cons, List.length_nil]; omega) (by simp only [List.length_append, List.length_cons, List.length_nil]; omega) rfl (fun v94 hv94 => ?_); refine TL.run1 (pure_assign rfl) rfl ?_; refine TL.nil' ?_; refine TC.region ?_; refine TL.run1 (pure_move rfl) rfl ?_; refine TL.run1 (pure_assign rfl) rfl ?_; refine TL.nil ?_; refine block_normal ?_
                have hgt := posT_lt hpl
                have hpk : ((posT c (m + 1) : Nat) : Int) = (((posT c m : Nat) : Int) + 1) := by rw [hps, hek]; omega
                refine loop_next (m + 1, v94) ⟨by (dsimp only; rw [hpk]; repeat (first | exact Agree.nil | refine Agree.cons rfl ?_)), by dsimp only; rw [htt, htk]; repeat (first | exact List.nil_sublist _ | exact List.Sublist.refl _ | apply List.Sublist.cons_cons | apply List.Sublist.cons)⟩ (fun j h => by rcases Nat.lt_or_eq_of_le (Nat.le_of_lt_succ h) with h | h; exact hm j h; rw [h]; exact hpl) (by dsimp only; have := posT_le c (m + 1); omega)
              · try dsimp only at hc78
                refine TC.seq ?_; refine TC.region ?_; refine TL.run1 (pure_eql rfl rfl) rfl ?_; refine TL.run1 (pure_assign rfl) rfl ?_; refine TL.nil' ?_; refine TC.condD rfl (fun hc80 => ?_) (fun hc80 => ?_)
                · try dsimp only at hc80
                  refine TC.region ?_; refine TL.run1 (pure_assign rfl) rfl ?_; refine TL.nil ?_; refine block_normal ?_; refine then_normal ?_; refine TC.seq ?_
                  have hek : endT c (posT c m) = posT c m + 1 := endO_eq hw hb
                  have hkd : kindT c (posT c m) = 5 := by (unfold kindT; rw [if_neg hw, if_neg hb, if_neg hc78, if_pos hc80])
                  have hps : posT c (m + 1) = endT c (posT c m) := by rw [posT, if_pos hpl]
                  have hrb : (encI b)[((posT c m : Nat) : Int).toNat]? = some [.v (.int .i64 (iAt b ((posT c m : Nat) : Int)))] := encI_get b _ (by omega) (by omega)
                  have hrk : (encI b)[(((posT c m : Nat) : Int) + 1).toNat]? = some [.v (.int .i64 (iAt b (((posT c m : Nat) : Int) + 1)))] := encI_get b (((posT c m : Nat) : Int) + 1) (by omega) (by omega)
                  have htk : tkAt c b m = [.v (.int .i64 (5)), .v (.int .i64 (iAt b ((posT c m : Nat) : Int))), .v (.int .i64 (iAt b (((posT c m : Nat) : Int) + 1)))] := by (unfold tkAt; rw [hps, hkd, hek]; rfl)
                  have htt := encTk_take c b m (nT_lt.2 hpl)
                  refine TC.drawTailN 12 Ty.follows (by kernel_rfl) (by kernel_rfl) ?_
                  simp only [List.take_succ_cons, List.take_zero, List.drop_succ_cons, List.drop_zero]
                  (iterate 4 refine TD.run1 (pure_move rfl) rfl ?_); refine TD.run1 (pure_indexAddr Ty.sl35 rfl rfl (by omega) hrb (List.cons_ne_nil _ _)) rfl ?_; refine TD.run1 (pure_load1 Ty.one3 rfl) rfl ?_; (iterate 2 refine TD.run1 (pure_move rfl) rfl ?_); refine TD.run1 (pure_indexAddr Ty.sl35 rfl rfl (by omega) hrk (List.cons_ne_nil _ _)) rfl ?_; refine TD.run1 (pure_load1 Ty.one3 rfl) rfl ?_; refine TD.run1 (pure_build3 Ty.pl33 Ty.zero33 rfl rfl rfl) rfl ?_; refine TD.run1 (pure_buildSlice (xs := [.tmp 92]) Ty.app27 (by decide) rfl rfl (.cons rfl (.agg _) rfl .nil)) rfl ?_; refine TD.nil ?_
                  show TL _ _ _ _ _ _
                  have hlt0 : ((encTk c b).take m).length ≤ m := by rw [List.length_take]; omega
                  have hmm := nT_lt.2 hpl
                  have hnn := nT_le c
                  refine TL.append Ty.app27 rfl rfl (by intro _; repeat (first | exact UpdR.here _ | apply UpdR.there)) (by simp only [List.length_append, List.length_cons, List.length_nil]; omega) (by simp only [List.length_append, List.length_cons, List.length_nil]; omega) rfl (fun v94 hv94 => ?_); refine TL.run1 (pure_assign rfl) rfl ?_; refine TL.nil' ?_; refine TC.region ?_; refine TL.run1 (pure_move rfl) rfl ?_; refine TL.run1 (pure_assign rfl) rfl ?_; refine TL.nil ?_; refine block_normal ?_
                  have hgt := posT_lt hpl
                  have hpk : ((posT c (m + 1) : Nat) : Int) = (((posT c m : Nat) : Int) + 1) := by rw [hps, hek]; omega
                  refine loop_next (m + 1, v94) ⟨by (dsimp only; rw [hpk]; repeat (first | exact Agree.nil | refine Agree.cons rfl ?_)), by dsimp only; rw [htt, htk]; repeat (first | exact List.nil_sublist _ | exact List.Sublist.refl _ | apply List.Sublist.cons_cons | apply List.Sublist.cons)⟩ (fun j h => by rcases Nat.lt_or_eq_of_le (Nat.le_of_lt_succ h) with h | h; exact hm j h; rw [h]; exact hpl) (by dsimp only; have := posT_le c (m + 1); omega)
                · try dsimp only at hc80
                  refine TC.skip ?_; refine block_normal ?_; refine then_normal ?_; refine TC.seq ?_
                  have hek : endT c (posT c m) = posT c m + 1 := endO_eq hw hb
                  have hkd : kindT c (posT c m) = 4 := by (unfold kindT; rw [if_neg hw, if_neg hb, if_neg hc78, if_neg hc80])
                  have hps : posT c (m + 1) = endT c (posT c m) := by rw [posT, if_pos hpl]
                  have hrb : (encI b)[((posT c m : Nat) : Int).toNat]? = some [.v (.int .i64 (iAt b ((posT c m : Nat) : Int)))] := encI_get b _ (by omega) (by omega)
                  have hrk : (encI b)[(((posT c m : Nat) : Int) + 1).toNat]? = some [.v (.int .i64 (iAt b (((posT c m : Nat) : Int) + 1)))] := encI_get b (((posT c m : Nat) : Int) + 1) (by omega) (by omega)
                  have htk : tkAt c b m = [.v (.int .i64 (4)), .v (.int .i64 (iAt b ((posT c m : Nat) : Int))), .v (.int .i64 (iAt b (((posT c m : Nat) : Int) + 1)))] := by (unfold tkAt; rw [hps, hkd, hek]; rfl)
                  have htt := encTk_take c b m (nT_lt.2 hpl)
                  refine TC.drawTailN 12 Ty.follows (by kernel_rfl) (by kernel_rfl) ?_
                  simp only [List.take_succ_cons, List.take_zero, List.drop_succ_cons, List.drop_zero]
                  (iterate 4 refine TD.run1 (pure_move rfl) rfl ?_); refine TD.run1 (pure_indexAddr Ty.sl35 rfl rfl (by omega) hrb (List.cons_ne_nil _ _)) rfl ?_; refine TD.run1 (pure_load1 Ty.one3 rfl) rfl ?_; (iterate 2 refine TD.run1 (pure_move rfl) rfl ?_); refine TD.run1 (pure_indexAddr Ty.sl35 rfl rfl (by omega) hrk (List.cons_ne_nil _ _)) rfl ?_; refine TD.run1 (pure_load1 Ty.one3 rfl) rfl ?_; refine TD.run1 (pure_build3 Ty.pl33 Ty.zero33 rfl rfl rfl) rfl ?_; refine TD.run1 (pure_buildSlice (xs := [.tmp 92]) Ty.app27 (by decide) rfl rfl (.cons rfl (.agg _) rfl .nil)) rfl ?_; refine TD.nil ?_
                  show TL _ _ _ _ _ _
                  have hlt0 : ((encTk c b).take m).length ≤ m := by rw [List.length_take]; omega
                  have hmm := nT_lt.2 hpl
                  have hnn := nT_le c
                  refine TL.append Ty.app27 rfl rfl (by intro _; repeat (first | exact UpdR.here _ | apply UpdR.there)) (by simp only [List.length_append, List.length_cons, List.length_nil]; omega) (by simp only [List.length_append, List.length_cons, List.length_nil]; omega) rfl (fun v94 hv94 => ?_); refine TL.run1 (pure_assign rfl) rfl ?_; refine TL.nil' ?_; refine TC.region ?_; refine TL.run1 (pure_move rfl) rfl ?_; refine TL.run1 (pure_assign rfl) rfl ?_; refine TL.nil ?_; refine block_normal ?_
                  have hgt := posT_lt hpl
                  have hpk : ((posT c (m + 1) : Nat) : Int) = (((posT c m : Nat) : Int) + 1) := by rw [hps, hek]; omega
                  refine loop_next (m + 1, v94) ⟨by (dsimp only; rw [hpk]; repeat (first | exact Agree.nil | refine Agree.cons rfl ?_)), by dsimp only; rw [htt, htk]; repeat (first | exact List.nil_sublist _ | exact List.Sublist.refl _ | apply List.Sublist.cons_cons | apply List.Sublist.cons)⟩ (fun j h => by rcases Nat.lt_or_eq_of_le (Nat.le_of_lt_succ h) with h | h; exact hm j h; rw [h]; exact hpl) (by dsimp only; have := posT_le c (m + 1); omega)
    · try dsimp only at hc23
      refine TC.exit ?_; refine then_exit ?_; refine loop_exit ?_; refine block_here ?_; refine then_normal ?_; refine TC.seq ?_; refine TC.region ?_; refine TL.run1 (pure_move rfl) rfl ?_; (iterate 2 refine TL.run1 (pure_assign rfl) rfl ?_); refine TL.nil' ?_; refine TC.ret ?_
      have hnm : nT c = m := nT_eq hm (by omega)
      unfold tokV; rw [hok, if_pos rfl, hcd, hbd]
      rw [take_all_of (encTk c b) m (by rw [encTk_len, hnm])]
      exact retF2 (.inl rfl) rfl rfl (.tupL (.cons (.rowS (by repeat (first | exact List.Mem.head _ | apply List.Mem.tail)) (by decide) (encTk_each _ _)) (.cons (.same _) .nil)))
end Go.Ob
