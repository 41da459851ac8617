import Derived.Test.YtkedjbommcfhiaaDoorK11
set_option linter.unusedVariables false
set_option linter.unusedSimpArgs false
namespace Go.Ob
open Go.Proofs

theorem witV_ok {s : ByteArray} {a : Int} (h : errW s a = 0) : witV s a = bnds (cls s) := by unfold witV; rw [if_pos h]
def movV (s : ByteArray) (a : Int) (v : Int) : Int := if errW s a = 0 then v else 0
theorem floorP_at (l : List Int) (i : Int) (h0 : 0 ≤ i) (h1 : i ≤ l.length) (a : Int) (hlo : ∀ j : Int, 0 ≤ j → j < i → iAt l j ≤ a) (hhi : i < l.length → a < iAt l i) : lbI l (a + 1) = i.toNat :=
  lbI_eq l _ _ (by omega) (fun j hj => by have := hlo j (by omega) (by omega); rw [← kAt_iAt l j (by omega)] at this; simp only [Int.toNat_natCast] at this; omega) (fun h => by have := hhi (by omega); rw [← kAt_iAt l i h0] at this; omega)
set_option maxRecDepth 100000 in
theorem GNext_spec (s : ByteArray) (a : Int) (hs : s.size ≤ 1000000000) : Fun Tryd.prog 25 [.v (.string s), .v (.int .i64 a)] (.tup [.v (.int .i64 (movV s a (nextP (bnds (cls s)) a))), .v (.int .i64 (errW s a))]) := by
  refine Fun.enter (n := 30) (rs := [.tmp 4, .tmp 5]) Tryd.func25 rfl Tryd.ntmps25 Tryd.results25 rfl (fun w F => ?_)
  have hbp := bnds_pos (cls s)
  have hal := cAll_len_le (cls s)
  have hbl : (bnds (cls s)).length = (cAll (cls s)).length + 1 := ends_len _
  rw [cls_len] at hal
  have hnl := nR_le s
  have hkb := encI_len (bnds (cls s))
  refine TC.seq ?_
  refine TC.region ?_
  refine TL.run1 (pure_assign rfl) rfl ?_
  refine TL.run1 (pure_assign rfl) rfl ?_
  refine TL.nil' ?_
  refine TC.seq ?_
  refine TC.region ?_
  refine TL.run1 (pure_move rfl) rfl ?_
  refine TL.run1 (pure_move rfl) rfl ?_
  refine TL.run1 (pure_call (Gwithin_spec s a hs) (.cons rfl (.cons rfl .nil)) Tryd.call41) rfl ?_
  refine TL.run1 (pure_move rfl) rfl ?_
  refine TL.run1 (pure_extract rfl rfl) rfl ?_
  refine TL.run1 (pure_extract rfl rfl) rfl ?_
  refine TL.run1 (pure_assign rfl) rfl ?_
  refine TL.run1 (pure_assign rfl) rfl ?_
  refine TL.nil' ?_
  refine TC.seq ?_
  refine TC.seq ?_
  refine TC.region ?_
  refine TL.run1 (pure_move rfl) rfl ?_
  refine TL.run1 (pure_neq rfl rfl) rfl ?_
  refine TL.nil' ?_
  first | refine TC.condD rfl (fun hc16 => ?_) (fun hc16 => ?_) | refine TC.condN rfl (fun hc16 => ?_) (fun hc16 => ?_) | refine TC.cond rfl (fun hc16 => ?_) (fun hc16 => ?_)
  · try dsimp only at hc16
    refine TC.seq ?_
    refine TC.region ?_
    refine TL.run1 (pure_move rfl) rfl ?_
    refine TL.run1 (pure_assign rfl) rfl ?_
    refine TL.run1 (pure_assign rfl) rfl ?_
    refine TL.nil' ?_
    refine TC.ret ?_
    refine then_ret ?_
    exact ret2 (.inl rfl) rfl rfl (by unfold movV; rw [if_neg (by assumption)])
  · try dsimp only at hc16
    have he : errW s a = 0 := by (have := hc16; omega)
    rw [witV_ok he]
    have hz := errW_zero he
    have hle := lbI_le (bnds (cls s)) (a + 1)
    have hrow := encI_get (bnds (cls s)) (min (lbI (bnds (cls s)) (a + 1) : Int) (((bnds (cls s)).length : Int) - 1)) (by omega) (by omega)
    refine TC.skip' ?_
    refine TC.seq ?_
    refine TC.region ?_
    refine TL.run1 (pure_move rfl) rfl ?_
    refine TL.run1 (pure_move rfl) rfl ?_
    refine TL.run1 (pure_add rfl rfl (mkI64 (by omega) (by omega))) rfl ?_
    refine TL.run1 (pure_call (SearchInts_spec (bnds (cls s)) (a + 1) (inc_bnds _) (by omega)) (.cons rfl (.cons rfl .nil)) Tryd.call42) rfl ?_
    refine TL.run1 (pure_assign rfl) rfl ?_
    refine TL.nil' ?_
    refine TC.seq ?_
    have hrow2 : (encI (bnds (cls s)))[(min (lbI (bnds (cls s)) (a + 1) : Int) (((encI (bnds (cls s))).length : Int) - 1)).toNat]? = some [.v (.int .i64 (iAt (bnds (cls s)) (min (lbI (bnds (cls s)) (a + 1) : Int) (((bnds (cls s)).length : Int) - 1))))] := by rw [hkb]; exact hrow
    refine TC.region ?_
    refine TL.run1 (pure_move rfl) rfl ?_
    refine TL.run1 (pure_move rfl) rfl ?_
    refine TL.run1 (pure_move rfl) rfl ?_
    first | refine TL.run1 (pure_len Ty.sl26 rfl) rfl ?_ | refine TL.run1 (pure_len_row Ty.sl26 rfl (by repeat (first | exact List.Mem.head _ | apply List.Mem.tail))) rfl ?_ | refine TL.run1 (pure_len_nil Ty.sl26 rfl) rfl ?_
    refine TL.run1 (pure_sub rfl rfl (mkI64 (by omega) (by omega))) rfl ?_
    refine TL.run1 (pure_min rfl rfl) rfl ?_
    refine TL.run1 (pure_indexAddr Ty.sl26 rfl rfl (by omega) (by assumption) (List.cons_ne_nil _ _)) rfl ?_
    first | refine TL.run1 (pure_load1 Ty.one3 rfl) rfl ?_ | refine TL.run1 (pure_load1_own Ty.one3 rfl (by repeat (first | exact List.Mem.head _ | apply List.Mem.tail)) (by repeat (first | exact DropR.zero _ | apply DropR.succ))) rfl ?_
    refine TL.run1 (pure_assign rfl) rfl ?_
    refine TL.run1 (pure_assign rfl) rfl ?_
    refine TL.nil' ?_
    refine TC.ret ?_
    exact ret2 (.inl rfl) rfl rfl (by unfold movV; rw [if_pos he, he]; first | rfl | (unfold floorP; rw [show a - 1 + 1 = a by omega]) | (unfold nextP; rfl))
set_option maxRecDepth 100000 in
theorem GPrev_spec (s : ByteArray) (a : Int) (hs : s.size ≤ 1000000000) : Fun Tryd.prog 26 [.v (.string s), .v (.int .i64 a)] (.tup [.v (.int .i64 (movV s a (floorP (bnds (cls s)) (a - 1)))), .v (.int .i64 (errW s a))]) := by
  refine Fun.enter (n := 25) (rs := [.tmp 4, .tmp 5]) Tryd.func26 rfl Tryd.ntmps26 Tryd.results26 rfl (fun w F => ?_)
  have hbp := bnds_pos (cls s)
  have hal := cAll_len_le (cls s)
  have hbl : (bnds (cls s)).length = (cAll (cls s)).length + 1 := ends_len _
  rw [cls_len] at hal
  have hnl := nR_le s
  have hkb := encI_len (bnds (cls s))
  refine TC.seq ?_
  refine TC.region ?_
  refine TL.run1 (pure_assign rfl) rfl ?_
  refine TL.run1 (pure_assign rfl) rfl ?_
  refine TL.nil' ?_
  refine TC.seq ?_
  refine TC.region ?_
  refine TL.run1 (pure_move rfl) rfl ?_
  refine TL.run1 (pure_move rfl) rfl ?_
  refine TL.run1 (pure_call (Gwithin_spec s a hs) (.cons rfl (.cons rfl .nil)) Tryd.call41) rfl ?_
  refine TL.run1 (pure_move rfl) rfl ?_
  refine TL.run1 (pure_extract rfl rfl) rfl ?_
  refine TL.run1 (pure_extract rfl rfl) rfl ?_
  refine TL.run1 (pure_assign rfl) rfl ?_
  refine TL.run1 (pure_assign rfl) rfl ?_
  refine TL.nil' ?_
  refine TC.seq ?_
  refine TC.seq ?_
  refine TC.region ?_
  refine TL.run1 (pure_move rfl) rfl ?_
  refine TL.run1 (pure_neq rfl rfl) rfl ?_
  refine TL.nil' ?_
  first | refine TC.condD rfl (fun hc15 => ?_) (fun hc15 => ?_) | refine TC.condN rfl (fun hc15 => ?_) (fun hc15 => ?_) | refine TC.cond rfl (fun hc15 => ?_) (fun hc15 => ?_)
  · try dsimp only at hc15
    refine TC.seq ?_
    refine TC.region ?_
    refine TL.run1 (pure_move rfl) rfl ?_
    refine TL.run1 (pure_assign rfl) rfl ?_
    refine TL.run1 (pure_assign rfl) rfl ?_
    refine TL.nil' ?_
    refine TC.ret ?_
    refine then_ret ?_
    exact ret2 (.inl rfl) rfl rfl (by unfold movV; rw [if_neg (by assumption)])
  · try dsimp only at hc15
    have he : errW s a = 0 := by (have := hc15; omega)
    rw [witV_ok he]
    have hz := errW_zero he
    have hle := lbI_le (bnds (cls s)) a
    have hrow := encI_get (bnds (cls s)) (max 0 ((lbI (bnds (cls s)) a : Int) - 1)) (by omega) (by omega)
    refine TC.skip' ?_
    refine TC.seq ?_
    refine TC.region ?_
    refine TL.run1 (pure_move rfl) rfl ?_
    refine TL.run1 (pure_move rfl) rfl ?_
    refine TL.run1 (pure_move rfl) rfl ?_
    refine TL.run1 (pure_call (SearchInts_spec (bnds (cls s)) a (inc_bnds _) (by omega)) (.cons rfl (.cons rfl .nil)) Tryd.call42) rfl ?_
    refine TL.run1 (pure_sub rfl rfl (mkI64 (by omega) (by omega))) rfl ?_
    refine TL.run1 (pure_max rfl rfl) rfl ?_
    refine TL.run1 (pure_indexAddr Ty.sl26 rfl rfl (by omega) (by assumption) (List.cons_ne_nil _ _)) rfl ?_
    first | refine TL.run1 (pure_load1 Ty.one3 rfl) rfl ?_ | refine TL.run1 (pure_load1_own Ty.one3 rfl (by repeat (first | exact List.Mem.head _ | apply List.Mem.tail)) (by repeat (first | exact DropR.zero _ | apply DropR.succ))) rfl ?_
    refine TL.run1 (pure_assign rfl) rfl ?_
    refine TL.run1 (pure_assign rfl) rfl ?_
    refine TL.nil' ?_
    refine TC.ret ?_
    exact ret2 (.inl rfl) rfl rfl (by unfold movV; rw [if_pos he, he]; first | rfl | (unfold floorP; rw [show a - 1 + 1 = a by omega]) | (unfold nextP; rfl))
set_option maxRecDepth 100000 in
theorem GFloor_spec (s : ByteArray) (a : Int) (hs : s.size ≤ 1000000000) : Fun Tryd.prog 28 [.v (.string s), .v (.int .i64 a)] (.tup [.v (.int .i64 (movV s a (floorP (bnds (cls s)) a))), .v (.int .i64 (errW s a))]) := by
  refine Fun.enter (n := 26) (rs := [.tmp 4, .tmp 5]) Tryd.func28 rfl Tryd.ntmps28 Tryd.results28 rfl (fun w F => ?_)
  have hbp := bnds_pos (cls s)
  have hal := cAll_len_le (cls s)
  have hbl : (bnds (cls s)).length = (cAll (cls s)).length + 1 := ends_len _
  rw [cls_len] at hal
  have hnl := nR_le s
  have hkb := encI_len (bnds (cls s))
  refine TC.seq ?_
  refine TC.region ?_
  refine TL.run1 (pure_assign rfl) rfl ?_
  refine TL.run1 (pure_assign rfl) rfl ?_
  refine TL.nil' ?_
  refine TC.seq ?_
  refine TC.region ?_
  refine TL.run1 (pure_move rfl) rfl ?_
  refine TL.run1 (pure_move rfl) rfl ?_
  refine TL.run1 (pure_call (Gwithin_spec s a hs) (.cons rfl (.cons rfl .nil)) Tryd.call41) rfl ?_
  refine TL.run1 (pure_move rfl) rfl ?_
  refine TL.run1 (pure_extract rfl rfl) rfl ?_
  refine TL.run1 (pure_extract rfl rfl) rfl ?_
  refine TL.run1 (pure_assign rfl) rfl ?_
  refine TL.run1 (pure_assign rfl) rfl ?_
  refine TL.nil' ?_
  refine TC.seq ?_
  refine TC.seq ?_
  refine TC.region ?_
  refine TL.run1 (pure_move rfl) rfl ?_
  refine TL.run1 (pure_neq rfl rfl) rfl ?_
  refine TL.nil' ?_
  first | refine TC.condD rfl (fun hc15 => ?_) (fun hc15 => ?_) | refine TC.condN rfl (fun hc15 => ?_) (fun hc15 => ?_) | refine TC.cond rfl (fun hc15 => ?_) (fun hc15 => ?_)
  · try dsimp only at hc15
    refine TC.seq ?_
    refine TC.region ?_
    refine TL.run1 (pure_move rfl) rfl ?_
    refine TL.run1 (pure_assign rfl) rfl ?_
    refine TL.run1 (pure_assign rfl) rfl ?_
    refine TL.nil' ?_
    refine TC.ret ?_
    refine then_ret ?_
    exact ret2 (.inl rfl) rfl rfl (by unfold movV; rw [if_neg (by assumption)])
  · try dsimp only at hc15
    have he : errW s a = 0 := by (have := hc15; omega)
    rw [witV_ok he]
    have hz := errW_zero he
    have hle := lbI_le (bnds (cls s)) (a + 1)
    have hrow := encI_get (bnds (cls s)) (max 0 ((lbI (bnds (cls s)) (a + 1) : Int) - 1)) (by omega) (by omega)
    refine TC.skip' ?_
    refine TC.seq ?_
    refine TC.region ?_
    refine TL.run1 (pure_move rfl) rfl ?_
    refine TL.run1 (pure_move rfl) rfl ?_
    refine TL.run1 (pure_move rfl) rfl ?_
    refine TL.run1 (pure_add rfl rfl (mkI64 (by omega) (by omega))) rfl ?_
    refine TL.run1 (pure_call (SearchInts_spec (bnds (cls s)) (a + 1) (inc_bnds _) (by omega)) (.cons rfl (.cons rfl .nil)) Tryd.call42) rfl ?_
    refine TL.run1 (pure_sub rfl rfl (mkI64 (by omega) (by omega))) rfl ?_
    refine TL.run1 (pure_max rfl rfl) rfl ?_
    refine TL.run1 (pure_indexAddr Ty.sl26 rfl rfl (by omega) (by assumption) (List.cons_ne_nil _ _)) rfl ?_
    first | refine TL.run1 (pure_load1 Ty.one3 rfl) rfl ?_ | refine TL.run1 (pure_load1_own Ty.one3 rfl (by repeat (first | exact List.Mem.head _ | apply List.Mem.tail)) (by repeat (first | exact DropR.zero _ | apply DropR.succ))) rfl ?_
    refine TL.run1 (pure_assign rfl) rfl ?_
    refine TL.run1 (pure_assign rfl) rfl ?_
    refine TL.nil' ?_
    refine TC.ret ?_
    exact ret2 (.inl rfl) rfl rfl (by unfold movV; rw [if_pos he, he]; first | rfl | (unfold floorP; rw [show a - 1 + 1 = a by omega]) | (unfold nextP; rfl))
def isV (s : ByteArray) (a : Int) : Bool := decide (errW s a = 0 ∧ inI (witV s a) a = true)
set_option maxRecDepth 100000 in
theorem GIsBoundary_spec (s : ByteArray) (a : Int) (hs : s.size ≤ 1000000000) : Fun Tryd.prog 27 [.v (.string s), .v (.int .i64 a)] (.tup [.v (.bool (isV s a)), .v (.int .i64 (errW s a))]) := by
  refine Fun.enter (n := 28) (rs := [.tmp 4, .tmp 5]) Tryd.func27 rfl Tryd.ntmps27 Tryd.results27 rfl (fun w F => ?_)
  have hbp := bnds_pos (cls s)
  have hal := cAll_len_le (cls s)
  have hbl : (bnds (cls s)).length = (cAll (cls s)).length + 1 := ends_len _
  rw [cls_len] at hal
  have hnl := nR_le s
  have hkb := encI_len (bnds (cls s))
  refine TC.seq ?_
  refine TC.region ?_
  refine TL.run1 (pure_assign rfl) rfl ?_
  refine TL.run1 (pure_assign rfl) rfl ?_
  refine TL.nil' ?_
  refine TC.seq ?_
  refine TC.region ?_
  refine TL.run1 (pure_move rfl) rfl ?_
  refine TL.run1 (pure_move rfl) rfl ?_
  refine TL.run1 (pure_call (Gwithin_spec s a hs) (.cons rfl (.cons rfl .nil)) Tryd.call41) rfl ?_
  refine TL.run1 (pure_move rfl) rfl ?_
  refine TL.run1 (pure_extract rfl rfl) rfl ?_
  refine TL.run1 (pure_extract rfl rfl) rfl ?_
  refine TL.run1 (pure_assign rfl) rfl ?_
  refine TL.run1 (pure_assign rfl) rfl ?_
  refine TL.nil' ?_
  refine TC.seq ?_
  refine TC.region ?_
  refine TL.run1 (pure_move rfl) rfl ?_
  refine TL.run1 (pure_move rfl) rfl ?_
  refine TL.run1 (pure_call (BinarySearch_spec (witV s a) a (by unfold witV; split; exact inc_bnds _; exact .nil) (by unfold witV; split; omega; simp)) (.cons rfl (.cons rfl .nil)) Tryd.call43) rfl ?_
  refine TL.run1 (pure_move rfl) rfl ?_
  refine TL.run1 (pure_extract rfl rfl) rfl ?_
  refine TL.run1 (pure_extract rfl rfl) rfl ?_
  refine TL.run1 (pure_assign rfl) rfl ?_
  refine TL.run1 (pure_assign rfl) rfl ?_
  refine TL.nil' ?_
  refine TC.seq ?_
  refine TC.region ?_
  refine TL.run1 (pure_move rfl) rfl ?_
  refine TL.run1 (pure_eql rfl rfl) rfl ?_
  refine TL.run1 (pure_move rfl) rfl ?_
  first | refine TL.splitP 24 rfl (fun hg24 => ?_) (fun hg24 => ?_) | refine TL.split 24 rfl (fun hg24 => ?_) (fun hg24 => ?_)
  · try dsimp only at hg24
    refine TL.runG rfl rfl (pure_move rfl) rfl ?_
    refine TL.run1 (pure_pick_true rfl rfl) rfl ?_
    refine TL.run1 (pure_move rfl) rfl ?_
    refine TL.run1 (pure_assign rfl) rfl ?_
    refine TL.run1 (pure_assign rfl) rfl ?_
    refine TL.nil' ?_
    refine TC.ret ?_
    refine ret2 (.inl rfl) rfl rfl ?_
    unfold isV
    first | (simp_all; done) | grind
  · try dsimp only at hg24
    refine TL.passG rfl rfl rfl rfl ?_
    refine TL.run1 (pure_pick_false rfl rfl) rfl ?_
    refine TL.run1 (pure_move rfl) rfl ?_
    refine TL.run1 (pure_assign rfl) rfl ?_
    refine TL.run1 (pure_assign rfl) rfl ?_
    refine TL.nil' ?_
    refine TC.ret ?_
    refine ret2 (.inl rfl) rfl rfl ?_
    unfold isV
    first | (simp_all; done) | grind
set_option maxRecDepth 100000 in
theorem RNext_spec (l : List Int) (a : Int) (hne : 0 < l.length) (hl : l.length ≤ 1000000000) : Fun Tryd.prog 30 [.sl 1 (encI l), .v (.int .i64 a)] (.v (.int .i64 (nextP l a))) := by
  refine Fun.enter (n := 28) (rs := [.tmp 4]) Tryd.func30 rfl Tryd.ntmps30 Tryd.results30 rfl (fun w F => ?_)
  have hk := encI_len l
  refine TC.seq ?_
  refine TC.region ?_
  refine TL.run1 (pure_assign rfl) rfl ?_
  refine TL.nil' ?_
  refine TC.seq ?_
  refine TC.seq ?_
  refine TC.region ?_
  refine TL.run1 (pure_assign rfl) rfl ?_
  refine TL.nil' ?_
  refine TC.block ?_
  refine TC.loopX (X := Int) (fun i => [(0, .sl 1 (encI l)), (1, .v (.int .i64 a)), (5, .v (.int .i64 i))]) (fun i => []) (fun i => (0 ≤ i) ∧ (i ≤ l.length) ∧ (∀ j : Int, 0 ≤ j → j < i → iAt l j ≤ a)) (fun i => (l.length - i).toNat) (0) ⟨by skip; repeat (first | exact Agree.nil | refine Agree.cons rfl ?_), by skip; repeat (first | exact List.nil_sublist _ | exact List.Sublist.refl _ | apply List.Sublist.cons_cons | apply List.Sublist.cons)⟩ ?_ ?_
  · skip
    exact ⟨by omega, by omega, fun j a b => by omega⟩
  intro i
  rintro ⟨h0, h1, h2⟩
  show TC _ _ _ (Env.of [(0, .sl 1 (encI l)), (1, .v (.int .i64 a)), (5, .v (.int .i64 i))]) []
  refine TC.seq ?_
  refine TC.seq ?_
  refine TC.region ?_
  refine TL.run1 (pure_move rfl) rfl ?_
  refine TL.run1 (pure_move rfl) rfl ?_
  first | refine TL.run1 (pure_len Ty.sl26 rfl) rfl ?_ | refine TL.run1 (pure_len_row Ty.sl26 rfl (by repeat (first | exact List.Mem.head _ | apply List.Mem.tail))) rfl ?_ | refine TL.run1 (pure_len_nil Ty.sl26 rfl) rfl ?_
  refine TL.run1 (pure_lss rfl rfl) rfl ?_
  refine TL.nil' ?_
  first | refine TC.condD rfl (fun hc9 => ?_) (fun hc9 => ?_) | refine TC.condN rfl (fun hc9 => ?_) (fun hc9 => ?_) | refine TC.cond rfl (fun hc9 => ?_) (fun hc9 => ?_)
  · try dsimp only at hc9
    refine TC.skip' ?_
    refine TC.seq ?_
    refine TC.block ?_
    refine TC.seq ?_
    have hrow := encI_get l i (by omega) (by omega)
    refine TC.region ?_
    refine TL.run1 (pure_move rfl) rfl ?_
    refine TL.run1 (pure_move rfl) rfl ?_
    refine TL.run1 (pure_indexAddr Ty.sl26 rfl rfl (by omega) (by assumption) (List.cons_ne_nil _ _)) rfl ?_
    first | refine TL.run1 (pure_load1 Ty.one3 rfl) rfl ?_ | refine TL.run1 (pure_load1_own Ty.one3 rfl (by repeat (first | exact List.Mem.head _ | apply List.Mem.tail)) (by repeat (first | exact DropR.zero _ | apply DropR.succ))) rfl ?_
    refine TL.run1 (pure_move rfl) rfl ?_
    refine TL.run1 (pure_gtr rfl rfl) rfl ?_
    refine TL.nil' ?_
    first | refine TC.condD rfl (fun hc17 => ?_) (fun hc17 => ?_) | refine TC.condN rfl (fun hc17 => ?_) (fun hc17 => ?_) | refine TC.cond rfl (fun hc17 => ?_) (fun hc17 => ?_)
    · try dsimp only at hc17
      refine TC.seq ?_
      refine TC.region ?_
      refine TL.run1 (pure_move rfl) rfl ?_
      refine TL.run1 (pure_move rfl) rfl ?_
      refine TL.run1 (pure_indexAddr Ty.sl26 rfl rfl (by omega) (by assumption) (List.cons_ne_nil _ _)) rfl ?_
      first | refine TL.run1 (pure_load1 Ty.one3 rfl) rfl ?_ | refine TL.run1 (pure_load1_own Ty.one3 rfl (by repeat (first | exact List.Mem.head _ | apply List.Mem.tail)) (by repeat (first | exact DropR.zero _ | apply DropR.succ))) rfl ?_
      refine TL.run1 (pure_assign rfl) rfl ?_
      refine TL.nil' ?_
      refine TC.ret ?_
      refine block_ret ?_
      refine then_ret ?_
      refine loop_ret ?_
      refine block_ret ?_
      refine then_ret ?_
      exact ret_int rfl (by unfold nextP; rw [floorP_at l i h0 h1 a h2 (fun _ => by omega), show min ((i.toNat : Nat) : Int) ((l.length : Int) - 1) = i by omega])
    · try dsimp only at hc17
      refine TC.skip ?_
      refine block_normal ?_
      refine then_normal ?_
      refine TC.region ?_
      refine TL.run1 (pure_move rfl) rfl ?_
      refine TL.run1 (pure_add rfl rfl (mkI64 (by omega) (by omega))) rfl ?_
      refine TL.run1 (pure_assign rfl) rfl ?_
      refine TL.nil ?_
      refine loop_next (i + 1) ⟨by repeat (first | exact Agree.nil | refine Agree.cons rfl ?_), by repeat (first | exact List.nil_sublist _ | exact List.Sublist.refl _ | apply List.Sublist.cons_cons | apply List.Sublist.cons)⟩ ⟨by omega, by omega, fun j p q => ?_⟩ (by omega)
      rcases Int.lt_or_eq_of_le (show j ≤ i by omega) with h | h
      · exact h2 j p h
      · rw [h]; omega
  · try dsimp only at hc9
    refine TC.exit ?_
    refine then_exit ?_
    refine loop_exit ?_
    refine block_here ?_
    refine then_normal ?_
    refine TC.seq ?_
    have hrow := encI_get l ((l.length : Int) - 1) (by omega) (by omega)
    have hrow2 : (encI l)[(((encI l).length : Int) - 1).toNat]? = some [.v (.int .i64 (iAt l ((l.length : Int) - 1)))] := by rw [hk]; exact hrow
    refine TC.region ?_
    refine TL.run1 (pure_move rfl) rfl ?_
    refine TL.run1 (pure_move rfl) rfl ?_
    first | refine TL.run1 (pure_len Ty.sl26 rfl) rfl ?_ | refine TL.run1 (pure_len_row Ty.sl26 rfl (by repeat (first | exact List.Mem.head _ | apply List.Mem.tail))) rfl ?_ | refine TL.run1 (pure_len_nil Ty.sl26 rfl) rfl ?_
    refine TL.run1 (pure_sub rfl rfl (mkI64 (by omega) (by omega))) rfl ?_
    refine TL.run1 (pure_indexAddr Ty.sl26 rfl rfl (by omega) hrow2 (List.cons_ne_nil _ _)) rfl ?_
    first | refine TL.run1 (pure_load1 Ty.one3 rfl) rfl ?_ | refine TL.run1 (pure_load1_own Ty.one3 rfl (by repeat (first | exact List.Mem.head _ | apply List.Mem.tail)) (by repeat (first | exact DropR.zero _ | apply DropR.succ))) rfl ?_
    refine TL.run1 (pure_assign rfl) rfl ?_
    refine TL.nil' ?_
    refine TC.ret ?_
    exact ret_int rfl (by unfold nextP; rw [floorP_at l i h0 h1 a h2 (fun h => by omega), show min ((i.toNat : Nat) : Int) ((l.length : Int) - 1) = (l.length : Int) - 1 by omega])
set_option maxRecDepth 100000 in
theorem RFloor_spec (l : List Int) (a : Int) (hi : Inc l) (hz : iAt l 0 = 0) (hne : 0 < l.length) (hl : l.length ≤ 1000000000) : Fun Tryd.prog 29 [.sl 1 (encI l), .v (.int .i64 a)] (.v (.int .i64 (floorP l a))) := by
  refine Fun.enter (n := 24) (rs := [.tmp 4]) Tryd.func29 rfl Tryd.ntmps29 Tryd.results29 rfl (fun w F => ?_)
  have hk := encI_len l
  have hle := lbI_le l (a + 1)
  refine TC.seq ?_
  refine TC.region ?_
  refine TL.run1 (pure_assign rfl) rfl ?_
  refine TL.nil' ?_
  refine TC.seq ?_
  refine TC.region ?_
  refine TL.run1 (pure_assign rfl) rfl ?_
  refine TL.nil' ?_
  refine TC.seq ?_
  refine TC.seq ?_
  refine TC.region ?_
  refine TL.run1 (pure_assign rfl) rfl ?_
  refine TL.nil' ?_
  refine TC.block ?_
  refine TC.loopX (X := Int × Int) (fun (i, o) => [(0, .sl 1 (encI l)), (1, .v (.int .i64 a)), (5, .v (.int .i64 o)), (6, .v (.int .i64 i))]) (fun (i, o) => []) (fun (i, o) => (0 ≤ i) ∧ (i ≤ l.length) ∧ (o = iAt l (max 0 (min (lbI l (a + 1) : Int) i - 1)) ∨ (i = 0 ∧ o = 0) ∨ (lbI l (a + 1) = 0 ∧ o = 0))) (fun (i, o) => (l.length - i).toNat) (0, 0) ⟨by skip; repeat (first | exact Agree.nil | refine Agree.cons rfl ?_), by skip; repeat (first | exact List.nil_sublist _ | exact List.Sublist.refl _ | apply List.Sublist.cons_cons | apply List.Sublist.cons)⟩ ?_ ?_
  · skip
    exact ⟨by omega, by omega, .inr (.inl ⟨rfl, rfl⟩)⟩
  rintro ⟨i, o⟩
  rintro ⟨h0, h1, h2⟩
  show TC _ _ _ (Env.of [(0, .sl 1 (encI l)), (1, .v (.int .i64 a)), (5, .v (.int .i64 o)), (6, .v (.int .i64 i))]) []
  refine TC.seq ?_
  refine TC.seq ?_
  refine TC.region ?_
  refine TL.run1 (pure_move rfl) rfl ?_
  refine TL.run1 (pure_move rfl) rfl ?_
  first | refine TL.run1 (pure_len Ty.sl26 rfl) rfl ?_ | refine TL.run1 (pure_len_row Ty.sl26 rfl (by repeat (first | exact List.Mem.head _ | apply List.Mem.tail))) rfl ?_ | refine TL.run1 (pure_len_nil Ty.sl26 rfl) rfl ?_
  refine TL.run1 (pure_lss rfl rfl) rfl ?_
  refine TL.nil' ?_
  first | refine TC.condD rfl (fun hc10 => ?_) (fun hc10 => ?_) | refine TC.condN rfl (fun hc10 => ?_) (fun hc10 => ?_) | refine TC.cond rfl (fun hc10 => ?_) (fun hc10 => ?_)
  · try dsimp only at hc10
    refine TC.skip' ?_
    refine TC.seq ?_
    refine TC.block ?_
    refine TC.seq ?_
    have hrow := encI_get l i (by omega) (by omega)
    refine TC.region ?_
    refine TL.run1 (pure_move rfl) rfl ?_
    refine TL.run1 (pure_move rfl) rfl ?_
    refine TL.run1 (pure_indexAddr Ty.sl26 rfl rfl (by omega) (by assumption) (List.cons_ne_nil _ _)) rfl ?_
    first | refine TL.run1 (pure_load1 Ty.one3 rfl) rfl ?_ | refine TL.run1 (pure_load1_own Ty.one3 rfl (by repeat (first | exact List.Mem.head _ | apply List.Mem.tail)) (by repeat (first | exact DropR.zero _ | apply DropR.succ))) rfl ?_
    refine TL.run1 (pure_move rfl) rfl ?_
    refine TL.run1 (pure_leq rfl rfl) rfl ?_
    refine TL.nil' ?_
    first | refine TC.condD rfl (fun hc18 => ?_) (fun hc18 => ?_) | refine TC.condN rfl (fun hc18 => ?_) (fun hc18 => ?_) | refine TC.cond rfl (fun hc18 => ?_) (fun hc18 => ?_)
    · try dsimp only at hc18
      refine TC.region ?_
      refine TL.run1 (pure_move rfl) rfl ?_
      refine TL.run1 (pure_move rfl) rfl ?_
      refine TL.run1 (pure_indexAddr Ty.sl26 rfl rfl (by omega) (by assumption) (List.cons_ne_nil _ _)) rfl ?_
      first | refine TL.run1 (pure_load1 Ty.one3 rfl) rfl ?_ | refine TL.run1 (pure_load1_own Ty.one3 rfl (by repeat (first | exact List.Mem.head _ | apply List.Mem.tail)) (by repeat (first | exact DropR.zero _ | apply DropR.succ))) rfl ?_
      refine TL.run1 (pure_assign rfl) rfl ?_
      refine TL.nil ?_
      refine block_normal ?_
      refine then_normal ?_
      refine TC.region ?_
      refine TL.run1 (pure_move rfl) rfl ?_
      refine TL.run1 (pure_add rfl rfl (mkI64 (by omega) (by omega))) rfl ?_
      refine TL.run1 (pure_assign rfl) rfl ?_
      refine TL.nil ?_
      refine loop_next (i + 1, iAt l i) ⟨by repeat (first | exact Agree.nil | refine Agree.cons rfl ?_), by repeat (first | exact List.nil_sublist _ | exact List.Sublist.refl _ | apply List.Sublist.cons_cons | apply List.Sublist.cons)⟩ ⟨by omega, by omega, .inl ?_⟩ (by dsimp only; omega)
      have hlb : i < (lbI l (a + 1) : Int) := by rcases Int.lt_or_le i (lbI l (a + 1)) with h | h; exact h; exact absurd (lb_hi hi (a + 1) i.toNat (by omega) (by omega)) (by rw [kAt_iAt l i h0]; omega)
      rw [show max 0 (min (lbI l (a + 1) : Int) (i + 1) - 1) = i by omega]
    · try dsimp only at hc18
      refine TC.skip ?_
      refine block_normal ?_
      refine then_normal ?_
      refine TC.region ?_
      refine TL.run1 (pure_move rfl) rfl ?_
      refine TL.run1 (pure_add rfl rfl (mkI64 (by omega) (by omega))) rfl ?_
      refine TL.run1 (pure_assign rfl) rfl ?_
      refine TL.nil ?_
      refine loop_next (i + 1, o) ⟨by repeat (first | exact Agree.nil | refine Agree.cons rfl ?_), by repeat (first | exact List.nil_sublist _ | exact List.Sublist.refl _ | apply List.Sublist.cons_cons | apply List.Sublist.cons)⟩ ⟨by omega, by omega, ?_⟩ (by dsimp only; omega)
      have hlb : (lbI l (a + 1) : Int) ≤ i := by rcases Int.lt_or_le i (lbI l (a + 1)) with h | h; exact absurd (lb_lo l (a + 1) i.toNat (by omega)) (by rw [kAt_iAt l i h0]; omega); exact h
      rcases h2 with h | ⟨h, h'⟩ | h
      · rw [show min (lbI l (a + 1) : Int) (i + 1) = min (lbI l (a + 1) : Int) i by omega]; exact .inl h
      · exact .inr (.inr ⟨by omega, h'⟩)
      · exact .inr (.inr h)
  · try dsimp only at hc10
    refine TC.exit ?_
    refine then_exit ?_
    refine loop_exit ?_
    refine block_here ?_
    refine then_normal ?_
    refine TC.seq ?_
    refine TC.region ?_
    refine TL.run1 (pure_move rfl) rfl ?_
    refine TL.run1 (pure_assign rfl) rfl ?_
    refine TL.nil' ?_
    refine TC.ret ?_
    refine ret_int rfl ?_
    unfold floorP
    rcases h2 with h | ⟨h, h'⟩ | ⟨h, h'⟩
    · rw [h, show min (lbI l (a + 1) : Int) i = (lbI l (a + 1) : Int) by omega]
    · omega
    · rw [h, h', show max 0 (((0 : Nat) : Int) - 1) = 0 by omega, hz]
end Go.Ob
