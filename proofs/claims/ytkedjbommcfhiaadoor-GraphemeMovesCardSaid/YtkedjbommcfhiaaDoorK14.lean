import Derived.Test.YtkedjbommcfhiaaDoorK13
set_option linter.unusedVariables false
set_option linter.unusedSimpArgs false
namespace Go.Ob
open Go.Proofs

theorem dropI (l : List Int) (k i : Nat) : iAt (l.drop k) i = iAt l ((k : Int) + i) := by
  unfold iAt
  rw [show ((k : Int) + i).toNat = k + i by omega, Int.toNat_natCast]
  simp [List.getD_eq_getElem?_getD, List.getElem?_drop]
theorem suffix_cls {s : ByteArray} (hok : okS s = true) {a : Nat} (ha : a ≤ nR s) : okS (s.extract (rpos s a) s.size) = true ∧ cls (s.extract (rpos s a) s.size) = (cls s).drop a := by
  have h1 := okS_sub hok ha (Nat.le_refl _)
  have h2 := cls_sub hok ha (Nat.le_refl _)
  rw [nR_end] at h1 h2
  refine ⟨h1, ?_⟩
  rw [h2]
  apply List.take_of_length_le
  rw [List.length_drop, cls_len]; omega
set_option maxRecDepth 100000 in
theorem GraphemeTruncates_spec (s : ByteArray) (n : Int) : Fun Tryd.prog 9 [.v (.string s), .v (.int .i64 n)] (.v (.bool true)) := by
  refine Fun.enter (n := 64) (rs := [.tmp 4]) Tryd.func9 rfl Tryd.ntmps9 Tryd.results9 rfl (fun w F => ?_)
  refine TC.seq ?_
  refine TC.region ?_
  refine TL.run1 (pure_assign rfl) rfl ?_
  refine TL.nil' ?_
  refine TC.seq ?_
  refine TC.region ?_
  refine TL.run1 (pure_move rfl) rfl ?_
  refine TL.run1 (pure_call (cut_spec s) (.cons rfl .nil) Tryd.call15) rfl ?_
  refine TL.run1 (pure_assign rfl) rfl ?_
  refine TL.nil' ?_
  refine TC.seq ?_
  obtain ⟨c, hcd⟩ : ∃ c, cutS s = c := ⟨_, rfl⟩
  rw [hcd]
  have hcs : c.size ≤ 300 := hcd ▸ cutS_size s
  have hnl := nR_le c
  have hbl : (bnds (cls c)).length = (cAll (cls c)).length + 1 := ends_len _
  have hcl := cAll_len_le (cls c)
  rw [cls_len] at hcl
  have hkb := encI_len (bnds (cls c))
  refine TC.region ?_
  refine TL.run1 (pure_move rfl) rfl ?_
  refine TL.run1 (pure_move rfl) rfl ?_
  refine TL.run1 (pure_call (Truncate_spec c n (by omega)) (.cons rfl (.cons rfl .nil)) Tryd.call24) rfl ?_
  refine TL.run1 (pure_move rfl) rfl ?_
  refine TL.run1 (pure_extract rfl rfl) rfl ?_
  refine TL.run1 (pure_extract rfl rfl) rfl ?_
  refine TL.run1 (pure_assign rfl) rfl ?_
  refine TL.run1 (pure_assign rfl) rfl ?_
  refine TL.nil' ?_
  refine TC.seq ?_
  refine TC.region ?_
  refine TL.run1 (pure_move rfl) rfl ?_
  refine TL.run1 (pure_call (Points_spec c (by omega)) (.cons rfl .nil) Tryd.call17) rfl ?_
  refine TL.run1 (pure_move rfl) rfl ?_
  refine TL.run1 (pure_extract rfl rfl) rfl ?_
  refine TL.run1 (pure_extract rfl rfl) rfl ?_
  refine TL.run1 (pure_extract rfl rfl) rfl ?_
  refine TL.run1 (pure_assign rfl) rfl ?_
  refine TL.run1 (pure_assign rfl) rfl ?_
  refine TL.run1 (pure_assign rfl) rfl ?_
  refine TL.nil' ?_
  refine TC.seq ?_
  refine TC.seq ?_
  refine TC.region ?_
  refine TL.run1 (pure_call (known_spec) .nil Tryd.call12) rfl ?_
  refine TL.run1 (pure_not rfl) rfl ?_
  refine TL.nil' ?_
  first | refine TC.condD rfl (fun hc26 => ?_) (fun hc26 => ?_) | refine TC.condN rfl (fun hc26 => ?_) (fun hc26 => ?_) | refine TC.cond rfl (fun hc26 => ?_) (fun hc26 => ?_)
  · try dsimp only at hc26
    exact absurd hc26 (by simp)
  · try dsimp only at hc26
    refine TC.skip' ?_
    refine TC.seq ?_
    refine TC.seq ?_
    refine TC.region ?_
    refine TL.run1 (pure_move rfl) rfl ?_
    refine TL.run1 (pure_not rfl) rfl ?_
    refine TL.nil' ?_
    first | refine TC.condD rfl (fun hc28 => ?_) (fun hc28 => ?_) | refine TC.condN rfl (fun hc28 => ?_) (fun hc28 => ?_) | refine TC.cond rfl (fun hc28 => ?_) (fun hc28 => ?_)
    · try dsimp only at hc28
      have hok : okS c = false := decide_eq_false hc28
      obtain ⟨v1, v2, v3, v4, v5⟩ := badV hok
      obtain ⟨u1, u2⟩ := truV_bad (n := n) hok
      rw [u1, u2]
      refine TC.regionCut [29, 30, 31, 32, 33, 34, 4] 4 (True) ?_ ?_
      · skip
        refine TL.run1 (pure_move rfl) rfl ?_
        refine TL.run1 (pure_eql rfl rfl) rfl ?_
        refine TL.run1 (pure_move rfl) rfl ?_
        first | refine TL.splitP 31 rfl (fun hg31 => ?_) (fun hg31 => ?_) | refine TL.split 31 rfl (fun hg31 => ?_) (fun hg31 => ?_)
        · try dsimp only at hg31
          refine TL.runG rfl rfl (pure_move rfl) rfl ?_
          refine TL.runG rfl rfl (pure_eql_string rfl rfl) rfl ?_
          refine TL.run1 (pure_pick_true rfl rfl) rfl ?_
          refine TL.run1 (pure_assign rfl) rfl ?_
          refine TL.cutEnd (by repeat (first | exact Same.refl _ _ | refine Same.put rfl ?_)) rfl ?_
          first | rfl | (simp_all [encI, encT]; done) | (simp_all; omega) | grind
        · try dsimp only at hg31
          refine TL.passG rfl rfl rfl rfl ?_
          refine TL.passG rfl rfl rfl rfl ?_
          refine TL.run1 (pure_pick_false rfl rfl) rfl ?_
          refine TL.run1 (pure_assign rfl) rfl ?_
          refine TL.cutEnd (by repeat (first | exact Same.refl _ _ | refine Same.put rfl ?_)) rfl ?_
          first | rfl | (simp_all [encI, encT]; done) | (simp_all; omega) | grind
      refine TC.ret ?_
      refine then_ret ?_
      exact ret_bool rfl (by simp)
    · try dsimp only at hc28
      have hok : okS c = true := decide_eq_true hc28
      obtain ⟨v1, v2, v3, v4, v5⟩ := okV hok
      rw [v1, v2]
      refine TC.skip' ?_
      refine TC.seq ?_
      refine TC.seq ?_
      refine TC.region ?_
      refine TL.run1 (pure_move rfl) rfl ?_
      refine TL.run1 (pure_lss rfl rfl) rfl ?_
      refine TL.nil' ?_
      first | refine TC.condD rfl (fun hc36 => ?_) (fun hc36 => ?_) | refine TC.condN rfl (fun hc36 => ?_) (fun hc36 => ?_) | refine TC.cond rfl (fun hc36 => ?_) (fun hc36 => ?_)
      · try dsimp only at hc36
        obtain ⟨u1, u2⟩ := truV_neg hok hc36
        rw [u1, u2]
        refine TC.regionCut [37, 38, 39, 40, 41, 42, 4] 4 (True) ?_ ?_
        · skip
          refine TL.run1 (pure_move rfl) rfl ?_
          refine TL.run1 (pure_eql rfl rfl) rfl ?_
          refine TL.run1 (pure_move rfl) rfl ?_
          first | refine TL.splitP 39 rfl (fun hg39 => ?_) (fun hg39 => ?_) | refine TL.split 39 rfl (fun hg39 => ?_) (fun hg39 => ?_)
          · try dsimp only at hg39
            refine TL.runG rfl rfl (pure_move rfl) rfl ?_
            refine TL.runG rfl rfl (pure_eql_string rfl rfl) rfl ?_
            refine TL.run1 (pure_pick_true rfl rfl) rfl ?_
            refine TL.run1 (pure_assign rfl) rfl ?_
            refine TL.cutEnd (by repeat (first | exact Same.refl _ _ | refine Same.put rfl ?_)) rfl ?_
            first | rfl | (simp_all [encI, encT]; done) | (simp_all; omega) | grind
          · try dsimp only at hg39
            refine TL.passG rfl rfl rfl rfl ?_
            refine TL.passG rfl rfl rfl rfl ?_
            refine TL.run1 (pure_pick_false rfl rfl) rfl ?_
            refine TL.run1 (pure_assign rfl) rfl ?_
            refine TL.cutEnd (by repeat (first | exact Same.refl _ _ | refine Same.put rfl ?_)) rfl ?_
            first | rfl | (simp_all [encI, encT]; done) | (simp_all; omega) | grind
        refine TC.ret ?_
        refine then_ret ?_
        exact ret_bool rfl (by simp)
      · try dsimp only at hc36
        obtain ⟨u1, u2⟩ := truV_ok hok hc36
        obtain ⟨m, hm⟩ : ∃ m : Nat, min n.toNat (cAll (cls c)).length = m := ⟨_, rfl⟩
        rw [hm] at u1
        rw [u1, u2]
        have hel := eN_le (cls c) m
        rw [cls_len] at hel
        have hem : eN (cls c) m ≤ nR c := hel
        have hme := rpos_mono c hel
        rw [nR_end] at hme
        have hrow := encI_get (bnds (cls c)) m (by omega) (by omega)
        rw [← eN_iAt] at hrow
        have hrow2 : (encI (bnds (cls c)))[(min n (((encI (bnds (cls c))).length : Int) - 1)).toNat]? = some [.v (.int .i64 ((eN (cls c) m : Nat) : Int))] := by rw [show (min n (((encI (bnds (cls c))).length : Int) - 1)).toNat = m by omega]; exact hrow
        refine TC.skip' ?_
        refine TC.seq ?_
        refine TC.region ?_
        refine TL.run1 (pure_move rfl) rfl ?_
        refine TL.run1 (pure_call (RBnd_spec c (by omega)) (.cons rfl .nil) Tryd.call19) rfl ?_
        refine TL.run1 (pure_assign rfl) rfl ?_
        refine TL.nil' ?_
        refine TC.regionCut [45, 46, 47, 48, 49, 50, 51, 52, 53, 54, 55, 56, 57, 58, 59, 60, 61, 62, 63, 4] 4 (True) ?_ ?_
        · skip
          refine TL.run1 (pure_move rfl) rfl ?_
          refine TL.run1 (pure_eql rfl rfl) rfl ?_
          refine TL.run1 (pure_move rfl) rfl ?_
          first | refine TL.splitP 47 rfl (fun hg47 => ?_) (fun hg47 => ?_) | refine TL.split 47 rfl (fun hg47 => ?_) (fun hg47 => ?_)
          · try dsimp only at hg47
            refine TL.runG rfl rfl (pure_move rfl) rfl ?_
            refine TL.runG rfl rfl (pure_move rfl) rfl ?_
            refine TL.runG rfl rfl (pure_move rfl) rfl ?_
            refine TL.runG rfl rfl (pure_move rfl) rfl ?_
            refine TL.runG rfl rfl (pure_move rfl) rfl ?_
            refine TL.runG rfl rfl (pure_move rfl) rfl ?_
            refine TL.runG rfl rfl (pure_move rfl) rfl ?_
            first | refine TL.runG rfl rfl (pure_len Ty.sl26 rfl) rfl ?_ | refine TL.runG rfl rfl (pure_len_row Ty.sl26 rfl (by repeat (first | exact List.Mem.head _ | apply List.Mem.tail))) rfl ?_ | refine TL.runG rfl rfl (pure_len_nil Ty.sl26 rfl) rfl ?_
            refine TL.runG rfl rfl (pure_sub rfl rfl (mkI64 (by omega) (by omega))) rfl ?_
            refine TL.runG rfl rfl (pure_min rfl rfl) rfl ?_
            refine TL.runG rfl rfl (pure_indexAddr Ty.sl26 rfl rfl (by omega) hrow2 (List.cons_ne_nil _ _)) rfl ?_
            first | refine TL.runG rfl rfl (pure_load1 Ty.one3 rfl) rfl ?_ | refine TL.runG rfl rfl (pure_load1_own Ty.one3 rfl (by repeat (first | exact List.Mem.head _ | apply List.Mem.tail)) (by repeat (first | exact DropR.zero _ | apply DropR.succ))) rfl ?_
            refine TL.runG rfl rfl (pure_call (bytesOf_spec c (eN (cls c) m) hem) (.cons rfl (.cons rfl (.cons rfl .nil))) Tryd.call22) rfl ?_
            refine TL.runG rfl rfl (pure_slice_str (l := 0) (h := rpos c (eN (cls c) m)) Tryd.underlying9 rfl rfl rfl (by omega) (by omega)) rfl ?_
            refine TL.runG rfl rfl (pure_eql_string rfl rfl) rfl ?_
            refine TL.run1 (pure_pick_true rfl rfl) rfl ?_
            refine TL.run1 (pure_assign rfl) rfl ?_
            refine TL.cutEnd (by repeat (first | exact Same.refl _ _ | refine Same.put rfl ?_)) rfl ?_
            first | (simp only [decide_true]; done) | (simp_all; done) | grind
          · try dsimp only at hg47
            refine TL.passG rfl rfl rfl rfl ?_
            refine TL.passG rfl rfl rfl rfl ?_
            refine TL.passG rfl rfl rfl rfl ?_
            refine TL.passG rfl rfl rfl rfl ?_
            refine TL.passG rfl rfl rfl rfl ?_
            refine TL.passG rfl rfl rfl rfl ?_
            refine TL.passG rfl rfl rfl rfl ?_
            refine TL.passG rfl rfl rfl rfl ?_
            refine TL.passG rfl rfl rfl rfl ?_
            refine TL.passG rfl rfl rfl rfl ?_
            refine TL.passG rfl rfl rfl rfl ?_
            refine TL.passG rfl rfl rfl rfl ?_
            refine TL.passG rfl rfl rfl rfl ?_
            refine TL.passG rfl rfl rfl rfl ?_
            refine TL.passG rfl rfl rfl rfl ?_
            refine TL.run1 (pure_pick_false rfl rfl) rfl ?_
            refine TL.run1 (pure_assign rfl) rfl ?_
            refine TL.cutEnd (by repeat (first | exact Same.refl _ _ | refine Same.put rfl ?_)) rfl ?_
            first | (simp only [decide_true]; done) | (simp_all; done) | grind
        refine TC.ret ?_
        exact ret_bool rfl (by simp)
set_option maxRecDepth 100000 in
theorem GraphemeSuffixes_spec (s : ByteArray) (x : Int) (hx0 : 0 ≤ x) (hx1 : x < 65536) : Fun Tryd.prog 6 [.v (.string s), .v (.int .u16 x)] (.v (.bool true)) := by
  refine Fun.enter (n := 81) (rs := [.tmp 4]) Tryd.func6 rfl Tryd.ntmps6 Tryd.results6 rfl (fun w F => ?_)
  refine TC.seq ?_
  refine TC.region ?_
  refine TL.run1 (pure_assign rfl) rfl ?_
  refine TL.nil' ?_
  refine TC.seq ?_
  refine TC.region ?_
  refine TL.run1 (pure_move rfl) rfl ?_
  refine TL.run1 (pure_call (cut_spec s) (.cons rfl .nil) Tryd.call15) rfl ?_
  refine TL.run1 (pure_assign rfl) rfl ?_
  refine TL.nil' ?_
  refine TC.seq ?_
  obtain ⟨c, hcd⟩ : ∃ c, cutS s = c := ⟨_, rfl⟩
  rw [hcd]
  have hcs : c.size ≤ 300 := hcd ▸ cutS_size s
  have hnl := nR_le c
  have hbl : (bnds (cls c)).length = (cAll (cls c)).length + 1 := ends_len _
  have hcl := cAll_len_le (cls c)
  rw [cls_len] at hcl
  have hkb := encI_len (bnds (cls c))
  refine TC.region ?_
  refine TL.run1 (pure_move rfl) rfl ?_
  refine TL.run1 (pure_call (Points_spec c (by omega)) (.cons rfl .nil) Tryd.call17) rfl ?_
  refine TL.run1 (pure_move rfl) rfl ?_
  refine TL.run1 (pure_extract rfl rfl) rfl ?_
  refine TL.run1 (pure_extract rfl rfl) rfl ?_
  refine TL.run1 (pure_extract rfl rfl) rfl ?_
  refine TL.run1 (pure_assign rfl) rfl ?_
  refine TL.run1 (pure_assign rfl) rfl ?_
  refine TL.run1 (pure_assign rfl) rfl ?_
  refine TL.nil' ?_
  refine TC.seq ?_
  refine TC.regionCut [21, 22, 23, 24, 25, 26] 26 (okS c = false) ?_ ?_
  · skip
    refine TL.run1 (pure_call (known_spec) .nil Tryd.call12) rfl ?_
    refine TL.run1 (pure_not rfl) rfl ?_
    refine TL.run1 (pure_move rfl) rfl ?_
    first | refine TL.splitP 23 rfl (fun hg23 => ?_) (fun hg23 => ?_) | refine TL.split 23 rfl (fun hg23 => ?_) (fun hg23 => ?_)
    · try dsimp only at hg23
      refine TL.passG rfl rfl rfl rfl ?_
      refine TL.passG rfl rfl rfl rfl ?_
      refine TL.run1 (pure_pick_true rfl rfl) rfl ?_
      refine TL.cutEnd (by repeat (first | exact Same.refl _ _ | refine Same.put rfl ?_)) rfl ?_
      first | (simp_all; done) | grind
    · try dsimp only at hg23
      refine TL.runG rfl rfl (pure_move rfl) rfl ?_
      refine TL.runG rfl rfl (pure_not rfl) rfl ?_
      refine TL.run1 (pure_pick_false rfl rfl) rfl ?_
      refine TL.cutEnd (by repeat (first | exact Same.refl _ _ | refine Same.put rfl ?_)) rfl ?_
      first | (simp_all; done) | grind
  first | refine TC.condD rfl (fun hc26 => ?_) (fun hc26 => ?_) | refine TC.condN rfl (fun hc26 => ?_) (fun hc26 => ?_) | refine TC.cond rfl (fun hc26 => ?_) (fun hc26 => ?_)
  · try dsimp only at hc26
    refine TC.seq ?_
    refine TC.region ?_
    refine TL.run1 (pure_call (known_spec) .nil Tryd.call12) rfl ?_
    refine TL.run1 (pure_assign rfl) rfl ?_
    refine TL.nil' ?_
    refine TC.ret ?_
    refine then_ret ?_
    exact ret_bool rfl (by simp)
  · try dsimp only at hc26
    have hok : okS c = true := by (cases h : okS c with | true => rfl | false => exact absurd h hc26)
    obtain ⟨v1, v2, v3, v4, v5⟩ := okV hok
    rw [v1, v2]
    refine TC.skip' ?_
    refine TC.seq ?_
    refine TC.region ?_
    refine TL.run1 (pure_move rfl) rfl ?_
    refine TL.run1 (pure_call (RBnd_spec c (by omega)) (.cons rfl .nil) Tryd.call19) rfl ?_
    refine TL.run1 (pure_assign rfl) rfl ?_
    refine TL.nil' ?_
    refine TC.seq ?_
    refine TC.region ?_
    refine TL.run1 (pure_move rfl) rfl ?_
    refine TL.run1 (pure_conv Tryd.underlying41 Tryd.underlying3 rfl (fit_i64 (by omega) (by omega))) rfl ?_
    refine TL.run1 (pure_move rfl) rfl ?_
    first | refine TL.run1 (pure_len Ty.sl26 rfl) rfl ?_ | refine TL.run1 (pure_len_row Ty.sl26 rfl (by repeat (first | exact List.Mem.head _ | apply List.Mem.tail))) rfl ?_ | refine TL.run1 (pure_len_nil Ty.sl26 rfl) rfl ?_
    refine TL.run1 (pure_rem rfl rfl (by omega) (by omega)) rfl ?_
    refine TL.run1 (pure_assign rfl) rfl ?_
    refine TL.nil' ?_
    refine TC.seq ?_
    obtain ⟨k, hkd⟩ : ∃ k : Int, x % ((encI (bnds (cls c))).length : Int) = k := ⟨_, rfl⟩
    rw [hkd]
    have hbp := bnds_pos (cls c)
    have hk0 : 0 ≤ k := by rw [← hkd]; exact Int.emod_nonneg _ (by omega)
    have hk1 : k < (bnds (cls c)).length := by (rw [← hkb, ← hkd]; exact Int.emod_lt_of_pos _ (by omega))
    have hble := bnds_le (cls c) k hk0 hk1
    rw [cls_len] at hble
    obtain ⟨a, had⟩ : ∃ a : Nat, iAt (bnds (cls c)) k = a := ⟨(iAt (bnds (cls c)) k).toNat, by omega⟩
    have hrow := encI_get (bnds (cls c)) k hk0 hk1
    rw [had] at hrow
    obtain ⟨n, rfl⟩ : ∃ n : Nat, k = n := ⟨k.toNat, by omega⟩
    have hbd := bnds_drop (c := cls c) (k := n) (by omega) had
    obtain ⟨s1, s2⟩ := suffix_cls (s := c) hok (a := a) (by omega)
    have hme := rpos_mono c (show a ≤ nR c by omega)
    rw [nR_end] at hme
    have hb2 : (bnds ((cls c).drop a)).length = (bnds (cls c)).length - n := by (have := congrArg List.length hbd; rwa [List.length_map, List.length_drop] at this)
    have hk2 := encI_len (bnds ((cls c).drop a))
    refine TC.region ?_
    refine TL.run1 (pure_move rfl) rfl ?_
    refine TL.run1 (pure_move rfl) rfl ?_
    refine TL.run1 (pure_move rfl) rfl ?_
    refine TL.run1 (pure_move rfl) rfl ?_
    refine TL.run1 (pure_move rfl) rfl ?_
    refine TL.run1 (pure_indexAddr Ty.sl26 rfl rfl (by omega) (by assumption) (List.cons_ne_nil _ _)) rfl ?_
    first | refine TL.run1 (pure_load1 Ty.one3 rfl) rfl ?_ | refine TL.run1 (pure_load1_own Ty.one3 rfl (by repeat (first | exact List.Mem.head _ | apply List.Mem.tail)) (by repeat (first | exact DropR.zero _ | apply DropR.succ))) rfl ?_
    refine TL.run1 (pure_call (bytesOf_spec c a (by omega)) (.cons rfl (.cons rfl (.cons rfl .nil))) Tryd.call22) rfl ?_
    refine TL.run1 (pure_slice_str (l := rpos c a) (h := c.size) Tryd.underlying9 rfl rfl rfl (by omega) (by omega)) rfl ?_
    refine TL.run1 (pure_call (Boundaries_spec (c.extract (rpos c a) c.size) (by rw [ByteArray.size_extract]; omega)) (.cons rfl .nil) Tryd.call16) rfl ?_
    refine TL.run1 (pure_move rfl) rfl ?_
    refine TL.run1 (pure_extract rfl rfl) rfl ?_
    refine TL.run1 (pure_extract rfl rfl) rfl ?_
    refine TL.run1 (pure_assign rfl) rfl ?_
    refine TL.run1 (pure_assign rfl) rfl ?_
    refine TL.nil' ?_
    refine TC.seq ?_
    obtain ⟨_, _, w3, _, w5⟩ := okV s1
    rw [w3, w5, s2]
    refine TC.regionCut [48, 49, 50, 51, 52, 53, 54, 55, 56, 57, 58] 58 (False) ?_ ?_
    · skip
      refine TL.run1 (pure_move rfl) rfl ?_
      refine TL.run1 (pure_neq rfl rfl) rfl ?_
      refine TL.run1 (pure_move rfl) rfl ?_
      first | refine TL.splitP 50 rfl (fun hg50 => ?_) (fun hg50 => ?_) | refine TL.split 50 rfl (fun hg50 => ?_) (fun hg50 => ?_)
      · try dsimp only at hg50
        refine TL.passG rfl rfl rfl rfl ?_
        refine TL.passG rfl rfl rfl rfl ?_
        refine TL.passG rfl rfl rfl rfl ?_
        refine TL.passG rfl rfl rfl rfl ?_
        refine TL.passG rfl rfl rfl rfl ?_
        refine TL.passG rfl rfl rfl rfl ?_
        refine TL.passG rfl rfl rfl rfl ?_
        refine TL.run1 (pure_pick_true rfl rfl) rfl ?_
        refine TL.cutEnd (by repeat (first | exact Same.refl _ _ | refine Same.put rfl ?_)) rfl ?_
        first | (simp_all; done) | (simp_all; omega) | grind
      · try dsimp only at hg50
        refine TL.runG rfl rfl (pure_move rfl) rfl ?_
        first | refine TL.runG rfl rfl (pure_len Ty.sl26 rfl) rfl ?_ | refine TL.runG rfl rfl (pure_len_row Ty.sl26 rfl (by repeat (first | exact List.Mem.head _ | apply List.Mem.tail))) rfl ?_ | refine TL.runG rfl rfl (pure_len_nil Ty.sl26 rfl) rfl ?_
        refine TL.runG rfl rfl (pure_move rfl) rfl ?_
        first | refine TL.runG rfl rfl (pure_len Ty.sl26 rfl) rfl ?_ | refine TL.runG rfl rfl (pure_len_row Ty.sl26 rfl (by repeat (first | exact List.Mem.head _ | apply List.Mem.tail))) rfl ?_ | refine TL.runG rfl rfl (pure_len_nil Ty.sl26 rfl) rfl ?_
        refine TL.runG rfl rfl (pure_move rfl) rfl ?_
        refine TL.runG rfl rfl (pure_sub rfl rfl (mkI64 (by omega) (by omega))) rfl ?_
        refine TL.runG rfl rfl (pure_neq rfl rfl) rfl ?_
        refine TL.run1 (pure_pick_false rfl rfl) rfl ?_
        refine TL.cutEnd (by repeat (first | exact Same.refl _ _ | refine Same.put rfl ?_)) rfl ?_
        first | (simp_all; done) | (simp_all; omega) | grind
    first | refine TC.condD rfl (fun hc58 => ?_) (fun hc58 => ?_) | refine TC.condN rfl (fun hc58 => ?_) (fun hc58 => ?_) | refine TC.cond rfl (fun hc58 => ?_) (fun hc58 => ?_)
    · try dsimp only at hc58
      all_goals exact hc58.elim
    · try dsimp only at hc58
      refine TC.skip' ?_
      refine TC.seq ?_
      refine TC.seq ?_
      refine TC.region ?_
      refine TL.run1 (pure_assign rfl) rfl ?_
      refine TL.nil' ?_
      refine TC.block ?_
      refine TC.loopX (X := Int) (fun i => [(8, .sl 1 (encI (bnds (cls c)))), (9, .v (.int .i64 n)), (10, .sl 1 (encI (bnds ((cls c).drop a)))), (12, .v (.int .i64 i))]) (fun i => []) (fun i => (0 ≤ i) ∧ (i ≤ (bnds ((cls c).drop a)).length)) (fun i => ((bnds ((cls c).drop a)).length - i).toNat) (0) ⟨by skip; repeat (first | exact Agree.nil | refine Agree.cons rfl ?_), by skip; repeat (first | exact List.nil_sublist _ | exact List.Sublist.refl _ | apply List.Sublist.cons_cons | apply List.Sublist.cons)⟩ ?_ ?_
      · skip
        exact ⟨by omega, by omega⟩
      intro i
      rintro ⟨h0, h1⟩
      show TC _ _ _ (Env.of [(8, .sl 1 (encI (bnds (cls c)))), (9, .v (.int .i64 n)), (10, .sl 1 (encI (bnds ((cls c).drop a)))), (12, .v (.int .i64 i))]) []
      have hbr : iAt (bnds (cls c)) n = a := had
      have hrow := encI_get (bnds (cls c)) n (by omega) (by omega)
      rw [hbr] at hrow
      have hbv := bnds_le ((cls c).drop a) i h0
      refine TC.seq ?_
      refine TC.seq ?_
      refine TC.region ?_
      refine TL.run1 (pure_move rfl) rfl ?_
      refine TL.run1 (pure_move rfl) rfl ?_
      first | refine TL.run1 (pure_len Ty.sl26 rfl) rfl ?_ | refine TL.run1 (pure_len_row Ty.sl26 rfl (by repeat (first | exact List.Mem.head _ | apply List.Mem.tail))) rfl ?_ | refine TL.run1 (pure_len_nil Ty.sl26 rfl) rfl ?_
      refine TL.run1 (pure_lss rfl rfl) rfl ?_
      refine TL.nil' ?_
      first | refine TC.condD rfl (fun hc62 => ?_) (fun hc62 => ?_) | refine TC.condN rfl (fun hc62 => ?_) (fun hc62 => ?_) | refine TC.cond rfl (fun hc62 => ?_) (fun hc62 => ?_)
      · try dsimp only at hc62
        refine TC.skip' ?_
        refine TC.seq ?_
        refine TC.block ?_
        have hbw := hbv (by omega)
        rw [List.length_drop, cls_len] at hbw
        have hra := encI_get (bnds ((cls c).drop a)) i h0 (by omega)
        have hrc := encI_get (bnds (cls c)) ((n : Int) + i) (by omega) (by omega)
        have hsum : iAt (bnds ((cls c).drop a)) i + (a : Int) = iAt (bnds (cls c)) ((n : Int) + i) := by (have h := congrArg (fun l => iAt l i) hbd; (try dsimp only at h); rw [iAt_map _ _ _ h0 (by omega)] at h; rw [h]; obtain ⟨j, rfl⟩ : ∃ j : Nat, i = j := ⟨i.toNat, by omega⟩; exact dropI _ _ _)
        refine TC.drawCut [65, 66, 67, 68, 69, 70, 71, 72, 73, 74, 75, 76, 77, 78, 79, 80] 80 (False) Ty.follows (by kernel_rfl) ?_ ?_
        · skip
          refine TD.run1 (pure_move rfl) rfl ?_
          refine TD.run1 (pure_move rfl) rfl ?_
          refine TD.run1 (pure_indexAddr Ty.sl26 rfl rfl (by omega) hra (List.cons_ne_nil _ _)) rfl ?_
          first | refine TD.run1 (pure_load1 Ty.one3 rfl) rfl ?_ | refine TD.run1 (pure_load1_own Ty.one3 rfl (by repeat (first | exact List.Mem.head _ | apply List.Mem.tail)) (by repeat (first | exact DropR.zero _ | apply DropR.succ))) rfl ?_
          refine TD.run1 (pure_move rfl) rfl ?_
          refine TD.run1 (pure_move rfl) rfl ?_
          refine TD.run1 (pure_indexAddr Ty.sl26 rfl rfl (by omega) hrow (List.cons_ne_nil _ _)) rfl ?_
          first | refine TD.run1 (pure_load1 Ty.one3 rfl) rfl ?_ | refine TD.run1 (pure_load1_own Ty.one3 rfl (by repeat (first | exact List.Mem.head _ | apply List.Mem.tail)) (by repeat (first | exact DropR.zero _ | apply DropR.succ))) rfl ?_
          refine TD.run1 (pure_add rfl rfl (mkI64 (by omega) (by omega))) rfl ?_
          refine TD.run1 (pure_move rfl) rfl ?_
          refine TD.run1 (pure_move rfl) rfl ?_
          refine TD.run1 (pure_move rfl) rfl ?_
          refine TD.run1 (pure_add rfl rfl (mkI64 (by omega) (by omega))) rfl ?_
          refine TD.run1 (pure_indexAddr Ty.sl26 rfl rfl (by omega) hrc (List.cons_ne_nil _ _)) rfl ?_
          first | refine TD.run1 (pure_load1 Ty.one3 rfl) rfl ?_ | refine TD.run1 (pure_load1_own Ty.one3 rfl (by repeat (first | exact List.Mem.head _ | apply List.Mem.tail)) (by repeat (first | exact DropR.zero _ | apply DropR.succ))) rfl ?_
          refine TD.run1 (pure_neq rfl rfl) rfl ?_
          refine TD.cutEnd (by repeat (first | exact Same.refl _ _ | refine Same.put rfl ?_)) rfl ?_
          simp only [decide_eq_true_eq, iff_false, ne_eq, Decidable.not_not, Bool.false_eq_true]; first | exact hsum | omega
        first | refine TC.condD rfl (fun hc80 => ?_) (fun hc80 => ?_) | refine TC.condN rfl (fun hc80 => ?_) (fun hc80 => ?_) | refine TC.cond rfl (fun hc80 => ?_) (fun hc80 => ?_)
        · try dsimp only at hc80
          all_goals exact hc80.elim
        · try dsimp only at hc80
          refine TC.skip ?_
          refine block_normal ?_
          refine then_normal ?_
          refine TC.region ?_
          refine TL.run1 (pure_move rfl) rfl ?_
          refine TL.run1 (pure_add rfl rfl (mkI64 (by omega) (by omega))) rfl ?_
          refine TL.run1 (pure_assign rfl) rfl ?_
          refine TL.nil ?_
          refine loop_next (i + 1) ⟨by repeat (first | exact Agree.nil | refine Agree.cons rfl ?_), by repeat (first | exact List.nil_sublist _ | exact List.Sublist.refl _ | apply List.Sublist.cons_cons | apply List.Sublist.cons)⟩ ⟨by omega, by omega⟩ (by omega)
      · try dsimp only at hc62
        refine TC.exit ?_
        refine then_exit ?_
        refine loop_exit ?_
        refine block_here ?_
        refine then_normal ?_
        refine TC.seq ?_
        refine TC.region ?_
        refine TL.run1 (pure_assign rfl) rfl ?_
        refine TL.nil' ?_
        refine TC.ret ?_
        exact ret_bool rfl (by simp)
end Go.Ob
