import Derived.Test.YtkedjbommcfhiaaDoorK12
set_option linter.unusedVariables false
set_option linter.unusedSimpArgs false
namespace Go.Ob
open Go.Proofs

theorem isV_ok {s : ByteArray} {a : Int} (h : errW s a = 0) : isV s a = decide (floorP (bnds (cls s)) a = a) := by
  obtain ⟨_, h0, _⟩ := errW_zero h
  unfold isV
  rw [witV_ok h, decide_eq_decide, floorP_self (inc_bnds _) (bnds_zero _) (bnds_pos _) a h0]
  exact ⟨fun h2 => h2.2, fun h2 => ⟨h, h2⟩⟩
theorem isV_bad {s : ByteArray} {a : Int} (h : errW s a ≠ 0) : isV s a = false := decide_eq_false fun h2 => h h2.1
theorem movV_ok {s : ByteArray} {a v : Int} (h : errW s a = 0) : movV s a v = v := by unfold movV; rw [if_pos h]
theorem movV_bad {s : ByteArray} {a v : Int} (h : errW s a ≠ 0) : movV s a v = 0 := by unfold movV; rw [if_neg h]
theorem truV_bad {s : ByteArray} {n : Int} (h : okS s = false) : truV s n = ⟨#[]⟩ ∧ truE s n = 12 := by unfold truV truE; rw [h]; exact ⟨rfl, rfl⟩
theorem truV_neg {s : ByteArray} {n : Int} (h : okS s = true) (hn : n < 0) : truV s n = ⟨#[]⟩ ∧ truE s n = 2 := by unfold truV truE; rw [if_pos h, if_pos h, if_pos hn, if_pos hn]; exact ⟨rfl, rfl⟩
theorem truV_ok {s : ByteArray} {n : Int} (h : okS s = true) (hn : ¬ n < 0) : truV s n = s.extract 0 (rpos s (eN (cls s) (min n.toNat (cAll (cls s)).length))) ∧ truE s n = 0 := by
  unfold truV truE; rw [if_pos h, if_pos h, if_neg hn, if_neg hn]; exact ⟨rfl, rfl⟩
theorem subS_len {s : ByteArray} {p : Nat × Nat} (h1 : p.1 ≤ p.2) (h2 : p.2 ≤ nR s) : ((subS s p).size : Int) = (rpos s p.2 : Int) - rpos s p.1 := by
  have a := rpos_mono s h1
  have b : rpos s p.2 ≤ s.size := by rw [← nR_end s]; exact rpos_mono s h2
  unfold subS; rw [size_sub s _ _ a b]; omega
set_option maxRecDepth 100000 in
theorem Truncate_spec (s : ByteArray) (n : Int) (hs : s.size ≤ 1000000000) : Fun Tryd.prog 24 [.v (.string s), .v (.int .i64 n)] (.tup [.v (.string (truV s n)), .v (.int .i64 (truE s n))]) := by
  refine Fun.enter (n := 33) (rs := [.tmp 4, .tmp 5]) Tryd.func24 rfl Tryd.ntmps24 Tryd.results24 rfl (fun w F => ?_)
  refine TC.seq ?_
  refine TC.region ?_
  refine TL.box rfl (.one rfl) rfl (fun g3 => ?_)
  refine TL.run1 (pure_assign rfl) rfl ?_
  refine TL.run1 (pure_assign rfl) rfl ?_
  refine TL.nil' ?_
  refine TC.seq ?_
  refine TC.block ?_
  refine TC.seq ?_
  refine TC.region ?_
  refine TL.run1 (pure_move rfl) rfl ?_
  refine TL.run1 (pure_call (valid_spec s hs) (.cons rfl .nil) Tryd.call36) rfl ?_
  refine TL.run1 (pure_not rfl) rfl ?_
  refine TL.run1 (pure_assign rfl) rfl ?_
  refine TL.nil' ?_
  first | refine TC.condD rfl (fun hc10 => ?_) (fun hc10 => ?_) | refine TC.condN rfl (fun hc10 => ?_) (fun hc10 => ?_) | refine TC.cond rfl (fun hc10 => ?_) (fun hc10 => ?_)
  · try dsimp only at hc10
    have hok : okS s = false := decide_eq_false hc10
    refine TC.seq ?_
    refine TC.region ?_
    refine TL.run1 (pure_assign rfl) rfl ?_
    refine TL.run1 (pure_assign rfl) rfl ?_
    refine TL.nil' ?_
    refine TC.ret ?_
    refine block_ret ?_
    refine then_ret ?_
    exact ret2 (.inl rfl) rfl rfl (by rw [(truV_bad hok).1, (truV_bad hok).2])
  · try dsimp only at hc10
    have hok : okS s = true := decide_eq_true hc10
    refine TC.seq ?_
    refine TC.region ?_
    first | refine TL.run1 (pure_load1 Ty.one3 rfl) rfl ?_ | refine TL.run1 (pure_load1_own Ty.one3 rfl (by repeat (first | exact List.Mem.head _ | apply List.Mem.tail)) (by repeat (first | exact DropR.zero _ | apply DropR.succ))) rfl ?_
    refine TL.run1 (pure_lss rfl rfl) rfl ?_
    refine TL.run1 (pure_assign rfl) rfl ?_
    refine TL.nil' ?_
    first | refine TC.condD rfl (fun hc14 => ?_) (fun hc14 => ?_) | refine TC.condN rfl (fun hc14 => ?_) (fun hc14 => ?_) | refine TC.cond rfl (fun hc14 => ?_) (fun hc14 => ?_)
    · try dsimp only at hc14
      refine TC.seq ?_
      refine TC.region ?_
      refine TL.run1 (pure_assign rfl) rfl ?_
      refine TL.run1 (pure_assign rfl) rfl ?_
      refine TL.nil' ?_
      refine TC.ret ?_
      refine block_ret ?_
      refine then_ret ?_
      exact ret2 (.inl rfl) rfl rfl (by rw [(truV_neg hok hc14).1, (truV_neg hok hc14).2])
    · try dsimp only at hc14
      refine TC.skip ?_
      refine block_normal ?_
      refine then_normal ?_
      refine TC.seq ?_
      refine TC.region ?_
      refine TL.alloc Ty.zero3 rfl (fun g6 => ?_)
      refine TL.alloc Ty.zero3 rfl (fun g7 => ?_)
      refine TL.store rfl rfl (.one (by first | rfl | assumption)) Tryd.sizeOf3 rfl (by repeat (first | exact UpdR.here _ | apply UpdR.there)) (by repeat (first | exact PutR.nil _ | apply PutR.here | apply PutR.skip)) ?_
      refine TL.store rfl rfl (.one (by first | rfl | assumption)) Tryd.sizeOf3 rfl (by repeat (first | exact UpdR.here _ | apply UpdR.there)) (by repeat (first | exact PutR.nil _ | apply PutR.here | apply PutR.skip)) ?_
      refine TL.nil' ?_
      refine TC.seq ?_
      refine TC.seq ?_
      refine TC.region ?_
      refine TL.run1 (pure_move rfl) rfl ?_
      refine TL.run1 (pure_call (clusters_spec s) (.cons rfl .nil) Tryd.call37) rfl ?_
      refine TL.nil' ?_
      refine TC.block ?_
      refine TC.rangeFunc (caps := [.at_ [.v (.string s)]]) (xs := (encCl s)) rfl rfl Tryd.call47 (clu_seq s hs) (fun k H => (k : Int) ≤ n ∧ List.Sublist [Blk.box g7 3 [.v (.int .i64 (rpos s (eN (cls s) k)))], .box g6 3 [.v (.int .i64 k)], .box g3 3 [.v (.int .i64 n)]] H) (fun e H => e = .exit 1 ∧ ∃ k : Nat, (k : Int) = n ∧ k ≤ (cAll (cls s)).length ∧ List.Sublist [Blk.box g7 3 [.v (.int .i64 (rpos s (eN (cls s) k)))], .box g6 3 [.v (.int .i64 k)], .box g3 3 [.v (.int .i64 n)]] H) ⟨by omega, List.Sublist.refl _⟩ ?_ (by rfl) ?_ ?_ ?_ ?_
      · skip
        intro x hx
        unfold encCl at hx
        obtain ⟨p, _, rfl⟩ := List.mem_map.1 hx
        rfl
      · skip
        rintro k x Hc w F S l hx ⟨hkn, hsub⟩
        refine TC.forget (fun _ _ h => h) hsub ?_
        obtain ⟨p, hp, rfl⟩ := encCl_mem s hx
        unfold cluR
        have hkl : k < (cAll (cls s)).length := (List.getElem?_eq_some_iff.1 hp).1
        have hcl := cAll_len_le (cls s)
        rw [cls_len] at hcl
        have hnl := nR_le s
        obtain ⟨e1, e2⟩ := eN_step hp
        obtain ⟨m1, m2, m3⟩ := cAll_mem (List.mem_of_getElem? hp)
        rw [cls_len] at m2
        have hsl := subS_len (s := s) (Nat.le_of_lt m3) m2
        have hsz := subS_size s p
        have hmo := rpos_mono s (Nat.le_of_lt m3)
        have hme := rpos_mono s m2
        rw [nR_end] at hme
        have hq : rpos s (eN (cls s) k) = rpos s p.1 := by rw [e1]
        refine TC.region ?_
        refine TL.run1 (pure_assign rfl) rfl ?_
        refine TL.nil ?_
        refine ⟨rfl, fun w F S => ?_⟩
        refine TC.block ?_
        refine TC.seq ?_
        refine TC.seq ?_
        refine TC.region ?_
        first | refine TL.run1 (pure_load1 Ty.one3 rfl) rfl ?_ | refine TL.run1 (pure_load1_own Ty.one3 rfl (by repeat (first | exact List.Mem.head _ | apply List.Mem.tail)) (by repeat (first | exact DropR.zero _ | apply DropR.succ))) rfl ?_
        first | refine TL.run1 (pure_load1 Ty.one3 rfl) rfl ?_ | refine TL.run1 (pure_load1_own Ty.one3 rfl (by repeat (first | exact List.Mem.head _ | apply List.Mem.tail)) (by repeat (first | exact DropR.zero _ | apply DropR.succ))) rfl ?_
        refine TL.run1 (pure_eql rfl rfl) rfl ?_
        refine TL.nil' ?_
        first | refine TC.condD rfl (fun hc23 => ?_) (fun hc23 => ?_) | refine TC.condN rfl (fun hc23 => ?_) (fun hc23 => ?_) | refine TC.cond rfl (fun hc23 => ?_) (fun hc23 => ?_)
        · try dsimp only at hc23
          refine TC.exit ?_
          refine then_exit ?_
          refine block_past rfl ?_
          exact ⟨rfl, k, by omega, by omega, List.Sublist.refl _⟩
        · try dsimp only at hc23
          refine TC.skip' ?_
          refine TC.seq ?_
          refine TC.region ?_
          first | refine TL.run1 (pure_load1 Ty.one3 rfl) rfl ?_ | refine TL.run1 (pure_load1_own Ty.one3 rfl (by repeat (first | exact List.Mem.head _ | apply List.Mem.tail)) (by repeat (first | exact DropR.zero _ | apply DropR.succ))) rfl ?_
          refine TL.run1 (pure_add rfl rfl (mkI64 (by omega) (by omega))) rfl ?_
          refine TL.store rfl rfl (.one (by first | rfl | assumption)) Tryd.sizeOf3 rfl (by repeat (first | exact UpdR.here _ | apply UpdR.there)) (by repeat (first | exact PutR.nil _ | apply PutR.here | apply PutR.skip)) ?_
          refine TL.nil' ?_
          refine TC.region ?_
          first | refine TL.run1 (pure_load1 Ty.one3 rfl) rfl ?_ | refine TL.run1 (pure_load1_own Ty.one3 rfl (by repeat (first | exact List.Mem.head _ | apply List.Mem.tail)) (by repeat (first | exact DropR.zero _ | apply DropR.succ))) rfl ?_
          refine TL.run1 (pure_move rfl) rfl ?_
          refine TL.run1 (pure_len_str Tryd.underlying9 rfl) rfl ?_
          refine TL.run1 (pure_add rfl rfl (mkI64 (by omega) (by omega))) rfl ?_
          refine TL.store rfl rfl (.one (by first | rfl | assumption)) Tryd.sizeOf3 rfl (by repeat (first | exact UpdR.here _ | apply UpdR.there)) (by repeat (first | exact PutR.nil _ | apply PutR.here | apply PutR.skip)) ?_
          refine TL.nil ?_
          refine block_normal ?_
          refine ⟨by omega, ?_⟩
          rw [show (rpos s (eN (cls s) (k + 1)) : Int) = (rpos s (eN (cls s) k) : Int) + ((subS s p).size : Int) by (rw [e2, e1, hsl]; omega), show (((k + 1 : Nat)) : Int) = (k : Int) + 1 by omega]
          first | exact List.Sublist.refl _ | (repeat (first | exact List.Sublist.refl _ | apply List.Sublist.cons_cons | apply List.Sublist.cons))
      · skip
        rintro Hc ⟨hkn, hsub⟩
        obtain ⟨m, hm, hml⟩ : ∃ m : Nat, m = (encCl s).length ∧ m = min n.toNat (cAll (cls s)).length := ⟨_, rfl, by rw [encCl_len] at *; omega⟩
        rw [← hm] at hsub
        refine block_normal ?_
        refine then_normal ?_
        refine TC.seq ?_
        refine TC.forget (fun _ _ h => h) hsub ?_
        have hel := eN_le (cls s) m
        rw [cls_len] at hel
        have hme := rpos_mono s hel
        rw [nR_end] at hme
        refine TC.region ?_
        refine TL.run1 (pure_move rfl) rfl ?_
        first | refine TL.run1 (pure_load1 Ty.one3 rfl) rfl ?_ | refine TL.run1 (pure_load1_own Ty.one3 rfl (by repeat (first | exact List.Mem.head _ | apply List.Mem.tail)) (by repeat (first | exact DropR.zero _ | apply DropR.succ))) rfl ?_
        refine TL.run1 (pure_slice_str Tryd.underlying9 rfl (by rfl) (by rfl) (by omega) (by omega)) rfl ?_
        refine TL.run1 (pure_assign rfl) rfl ?_
        refine TL.run1 (pure_assign rfl) rfl ?_
        refine TL.nil' ?_
        refine TC.ret ?_
        exact ret2 (.inl rfl) rfl rfl (by rw [(truV_ok hok hc14).1, (truV_ok hok hc14).2, hml])
      · skip
        rintro Hc ⟨he, _⟩
        cases he
      · skip
        rintro id Hc ⟨he, k, hk, hkl, hsub⟩
        cases he
        obtain ⟨m, hm, hml⟩ : ∃ m : Nat, k = m ∧ m = min n.toNat (cAll (cls s)).length := ⟨k, rfl, by omega⟩
        rw [hm] at hsub
        refine block_here ?_
        refine then_normal ?_
        refine TC.seq ?_
        refine TC.forget (fun _ _ h => h) hsub ?_
        have hel := eN_le (cls s) m
        rw [cls_len] at hel
        have hme := rpos_mono s hel
        rw [nR_end] at hme
        refine TC.region ?_
        refine TL.run1 (pure_move rfl) rfl ?_
        first | refine TL.run1 (pure_load1 Ty.one3 rfl) rfl ?_ | refine TL.run1 (pure_load1_own Ty.one3 rfl (by repeat (first | exact List.Mem.head _ | apply List.Mem.tail)) (by repeat (first | exact DropR.zero _ | apply DropR.succ))) rfl ?_
        refine TL.run1 (pure_slice_str Tryd.underlying9 rfl (by rfl) (by rfl) (by omega) (by omega)) rfl ?_
        refine TL.run1 (pure_assign rfl) rfl ?_
        refine TL.run1 (pure_assign rfl) rfl ?_
        refine TL.nil' ?_
        refine TC.ret ?_
        exact ret2 (.inl rfl) rfl rfl (by rw [(truV_ok hok hc14).1, (truV_ok hok hc14).2, hml])
end Go.Ob
