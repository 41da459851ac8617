import Derived.Test.YtkmgogabbefonaaDoorN
set_option linter.unusedVariables false
set_option linter.unusedSimpArgs false
namespace Go.Ob
open Go.Proofs
set_option maxRecDepth 100000 in
theorem clu_seq (s : ByteArray) (hs : s.size ≤ 1000000000) : SeqD Tryd.prog 51 [.at_ [.v (.string s)]] (encCl s) := by
  refine SeqD.enter Tryd.func51 rfl Tryd.ntmps51 Tryd.results51 rfl (fun l J Jx w F H0 hJ0 hy => ?_)
  refine TC.seq ?_
  refine TC.region ?_
  refine TL.run1 (pure_call (table_spec) .nil Tryd.call52) rfl ?_
  refine TL.run1 (pure_assign rfl) rfl ?_
  refine TL.nil' ?_
  refine TC.seq ?_
  refine TC.region ?_
  refine TL.alloc Ty.zero92 rfl (fun g4 => ?_)
  refine TL.nil' ?_
  refine TC.seq ?_
  refine TC.region ?_
  refine TL.run1 (pure_assign rfl) rfl ?_
  refine TL.run1 (pure_assign rfl) rfl ?_
  refine TL.run1 (pure_assign rfl) rfl ?_
  refine TL.nil' ?_
  refine TC.seq ?_
  refine TC.seq ?_
  refine TC.region ?_
  first | refine TL.run1 (pure_load1 Ty.one9 rfl) rfl ?_ | refine TL.run1 (pure_load1_own Ty.one9 rfl (by repeat (first | exact List.Mem.head _ | apply List.Mem.tail)) (by repeat (first | exact DropR.zero _ | apply DropR.succ))) rfl ?_
  refine TL.rangeStr Tryd.underlying9 rfl rfl (fun g13 => ?_)
  refine TL.nil' ?_
  refine TC.block ?_
  refine TC.loopX (X := Nat × Hp) (fun (k, Hc) => [(0, .v (.func (.yield l) #[] #[])), (1, .at_ [.v (.string s)]), (3, .sl 3 (encS tabG)), (4, .v (.pointer (some ⟨g4, 0, none⟩))), (5, .v (.int .i64 k)), (6, .v (.int .i64 (lastB (cls s) k))), (7, .v (.int .i64 (rpos s (lastB (cls s) k)))), (13, .v (.pointer (some ⟨g13, 0, none⟩)))]) (fun (k, Hc) => (Blk.obj g13 (.stringIter s (rpos s k)) :: Blk.box g4 92 (encM (stL (cls s) k)) :: Hc)) (fun (k, Hc) => (k ≤ nR s) ∧ (J (cTo (cls s) k).length Hc)) (fun (k, Hc) => nR s - k) (0, H0) ⟨by skip; repeat (first | exact Agree.nil | refine Agree.cons rfl ?_), by skip; repeat (first | exact List.nil_sublist _ | exact List.Sublist.refl _ | apply List.Sublist.cons_cons | apply List.Sublist.cons)⟩ ?_ ?_
  · skip
    exact ⟨Nat.zero_le _, hJ0⟩
  rintro ⟨k, Hc⟩
  rintro ⟨hk, hJ⟩
  show TC _ _ _ (Env.of [(0, .v (.func (.yield l) #[] #[])), (1, .at_ [.v (.string s)]), (3, .sl 3 (encS tabG)), (4, .v (.pointer (some ⟨g4, 0, none⟩))), (5, .v (.int .i64 k)), (6, .v (.int .i64 (lastB (cls s) k))), (7, .v (.int .i64 (rpos s (lastB (cls s) k)))), (13, .v (.pointer (some ⟨g13, 0, none⟩)))]) (Blk.obj g13 (.stringIter s (rpos s k)) :: Blk.box g4 92 (encM (stL (cls s) k)) :: Hc)
  have hrn := dc_rune s (rpos s k)
  have hnl := nR_le s
  have hll := lastB_le (cls s) k
  have hmo := rpos_mono s hll
  have hsz : rpos s k ≤ s.size := by rw [← nR_end s]; exact rpos_mono s hk
  have hrg := st_reg_range (cls s) k
  refine TC.seq ?_
  refine TC.region ?_
  refine TL.nextStr rfl (by repeat (first | exact UpdR.here _ | apply UpdR.there)) rfl (fun hn14 => ?_) (fun hn14 => ?_)
  · skip
    have hkl : k < nR s := nR_lt.2 hn14
    refine TL.run1 (pure_extract rfl rfl) rfl ?_
    refine TL.nil' ?_
    refine TC.seq ?_
    refine TC.cond rfl (fun _ => ?_) (fun h => absurd h (by decide))
    refine TC.skip' ?_
    refine TC.block ?_
    refine TC.seq ?_
    refine TC.region ?_
    refine TL.run1 (pure_extract rfl rfl) rfl ?_
    refine TL.run1 (pure_extract rfl rfl) rfl ?_
    refine TL.run1 (pure_assign rfl) rfl ?_
    refine TL.run1 (pure_assign rfl) rfl ?_
    refine TL.nil' ?_
    refine TC.seq ?_
    refine TC.region ?_
    refine TL.run1 (pure_move rfl) rfl ?_
    refine TL.run1 (pure_move rfl) rfl ?_
    refine TL.run1 (pure_conv Tryd.underlying21 Tryd.underlying3 rfl (fit_i64 (by omega) (by omega))) rfl ?_
    refine TL.run1 (pure_call (classOf_spec _ _ tabG_apart (by rw [tabG_len]; omega)) (.cons rfl (.cons rfl .nil)) Tryd.call53) rfl ?_
    refine TL.run1 (pure_assign rfl) rfl ?_
    refine TL.nil' ?_
    refine TC.seq ?_
    have hcl : classOfP tabG ((Utf8.decode s (rpos s k)).1 : Int) = iAt (cls s) k := (iAt_cls s k hkl).symm
    rw [hcl]
    refine TC.regionCut [22, 23, 24, 25, 26, 27] 27 (Bk (cls s) k) ?_ ?_
    · skip
      refine TL.run1 (pure_move rfl) rfl ?_
      refine TL.run1 (pure_gtr rfl rfl) rfl ?_
      refine TL.run1 (pure_move rfl) rfl ?_
      first | refine TL.splitP 24 rfl (fun hg24 => ?_) (fun hg24 => ?_) | refine TL.split 24 rfl (fun hg24 => ?_) (fun hg24 => ?_)
      · try dsimp only at hg24
        refine TL.runG rfl rfl (pure_move rfl) rfl ?_
        refine TL.callDG rfl rfl (.right (.left (SplitR.none _))) (boundary_spec (stL (cls s) k) (iAt (cls s) k) g4 hrg.1) (.cons rfl (.cons rfl .nil)) Tryd.call54 rfl ?_
        rintro r2 H2 ⟨rfl, rfl⟩
        refine TL.perm (.swap _ _ _) ?_
        refine TL.run1 (pure_pick_true rfl rfl) rfl ?_
        refine TL.cutEnd (by repeat (first | exact Same.refl _ _ | refine Same.put rfl ?_)) rfl ?_
        first | (show bAt (cls s) k = true ↔ Bk (cls s) k; exact ⟨fun h => ⟨by omega, h⟩, fun h => h.2⟩) | (exact ⟨fun h => (by cases h), fun h => by have := h.1; omega⟩)
      · try dsimp only at hg24
        refine TL.passG rfl rfl rfl rfl ?_
        refine TL.passG rfl rfl rfl rfl ?_
        refine TL.run1 (pure_pick_false rfl rfl) rfl ?_
        refine TL.cutEnd (by repeat (first | exact Same.refl _ _ | refine Same.put rfl ?_)) rfl ?_
        first | (show bAt (cls s) k = true ↔ Bk (cls s) k; exact ⟨fun h => ⟨by omega, h⟩, fun h => h.2⟩) | (exact ⟨fun h => (by cases h), fun h => by have := h.1; omega⟩)
    first | refine TC.condD rfl (fun hc27 => ?_) (fun hc27 => ?_) | refine TC.condN rfl (fun hc27 => ?_) (fun hc27 => ?_) | refine TC.cond rfl (fun hc27 => ?_) (fun hc27 => ?_)
    · try dsimp only at hc27
      refine TC.seq ?_
      refine TC.seq ?_
      have hxn := encCl_get s (cAll_get (cls s) k (by rw [cls_len]; exact hkl) hc27)
      refine TC.region ?_
      refine TL.run1 (pure_move rfl) rfl ?_
      refine TL.run1 (pure_move rfl) rfl ?_
      refine TL.run1 (pure_move rfl) rfl ?_
      refine TL.run1 (pure_build_arr Ty.pa68 Ty.zero68 (.cons rfl rfl (.one rfl) rfl (.here (.nil _)) (.cons rfl rfl (.one rfl) rfl (.skip (.here (.nil _))) (.nil _)))) rfl ?_
      first | refine TL.run1 (pure_load1 Ty.one9 rfl) rfl ?_ | refine TL.run1 (pure_load1_own Ty.one9 rfl (by repeat (first | exact List.Mem.head _ | apply List.Mem.tail)) (by repeat (first | exact DropR.zero _ | apply DropR.succ))) rfl ?_
      refine TL.run1 (pure_move rfl) rfl ?_
      refine TL.run1 (pure_move rfl) rfl ?_
      refine TL.run1 (pure_slice_str Tryd.underlying9 rfl (by rfl) (by rfl) (by omega) (by omega)) rfl ?_
      refine TL.yield rfl (.right (.right (SplitR.all _))) rfl (hy _ _ Hc hxn hJ) (.cons rfl (.cons rfl .nil)) (by intro t ht; cases ht; exact (by decide : (36 : Nat) < 54)) (fun bb H1 hR => ?_)
      refine TL.perm (H' := Blk.obj g13 (.stringIter s (rpos s (k + 1))) :: Blk.box g4 92 (encM (stL (cls s) k)) :: H1) List.perm_append_comm ?_
      refine TL.run1 (pure_not rfl) rfl ?_
      refine TL.nil' ?_
      first | refine TC.condD rfl (fun hc37 => ?_) (fun hc37 => ?_) | refine TC.condN rfl (fun hc37 => ?_) (fun hc37 => ?_) | refine TC.cond rfl (fun hc37 => ?_) (fun hc37 => ?_)
      · try dsimp only at hc37
        have hcy : bb = false := by simpa using hc37
        refine TC.ret ?_
        refine then_ret ?_
        refine then_ret ?_
        refine block_ret ?_
        refine loop_ret ?_
        refine block_ret ?_
        refine then_ret ?_
        exact ⟨.inl rfl, [], .nil, H1, .cons _ (.cons _ (List.Sublist.refl _)), .inr ⟨_, by (have h := hR; simp only [hcy, Bool.false_eq_true, if_false] at h; exact h)⟩⟩
      · try dsimp only at hc37
        have hcy : bb = true := by simpa using hc37
        refine TC.skip' ?_
        refine TC.region ?_
        refine TL.run1 (pure_move rfl) rfl ?_
        refine TL.run1 (pure_move rfl) rfl ?_
        refine TL.run1 (pure_assign rfl) rfl ?_
        refine TL.run1 (pure_assign rfl) rfl ?_
        refine TL.nil' ?_
        refine TC.seq ?_
        refine TC.region ?_
        refine TL.run1 (pure_move rfl) rfl ?_
        refine TL.callD (.right (.left (SplitR.none _))) (take_spec (stL (cls s) k) (iAt (cls s) k) g4 hrg.1 (by omega)) (.cons rfl (.cons rfl .nil)) Tryd.call55 (fun t ht => by cases ht; exact of_decide_eq_true rfl) ?_
        rintro r2 H2 ⟨rfl, rfl⟩
        refine TL.perm (.swap _ _ _) ?_
        refine TL.nil' ?_
        refine TC.region ?_
        refine TL.run1 (pure_move rfl) rfl ?_
        refine TL.run1 (pure_add rfl rfl (mkI64 (by omega) (by omega))) rfl ?_
        refine TL.run1 (pure_assign rfl) rfl ?_
        refine TL.nil ?_
        refine block_normal ?_
        have hl1 : lastB (cls s) (k + 1) = k := by rw [lastB, if_pos hc27]
        have hc1 : (cTo (cls s) (k + 1)).length = (cTo (cls s) k).length + 1 := by rw [cTo, if_pos hc27]; simp
        refine loop_next (k + 1, H1) ⟨by (dsimp only; rw [hl1]; repeat (first | exact Agree.nil | refine Agree.cons rfl ?_)), by repeat (first | exact List.nil_sublist _ | exact List.Sublist.refl _ | apply List.Sublist.cons_cons | apply List.Sublist.cons)⟩ ⟨by omega, by rw [hc1]; have h := hR; simp only [hcy, if_true] at h; exact h⟩ (by dsimp only; omega)
    · try dsimp only at hc27
      refine TC.skip' ?_
      refine TC.seq ?_
      refine TC.region ?_
      refine TL.run1 (pure_move rfl) rfl ?_
      refine TL.callD (.right (.left (SplitR.none _))) (take_spec (stL (cls s) k) (iAt (cls s) k) g4 hrg.1 (by omega)) (.cons rfl (.cons rfl .nil)) Tryd.call55 (fun t ht => by cases ht; exact of_decide_eq_true rfl) ?_
      rintro r2 H2 ⟨rfl, rfl⟩
      refine TL.perm (.swap _ _ _) ?_
      refine TL.nil' ?_
      refine TC.region ?_
      refine TL.run1 (pure_move rfl) rfl ?_
      refine TL.run1 (pure_add rfl rfl (mkI64 (by omega) (by omega))) rfl ?_
      refine TL.run1 (pure_assign rfl) rfl ?_
      refine TL.nil ?_
      refine block_normal ?_
      have hl1 : lastB (cls s) (k + 1) = lastB (cls s) k := by rw [lastB, if_neg hc27]
      have hc1 : (cTo (cls s) (k + 1)).length = (cTo (cls s) k).length := by rw [cTo, if_neg hc27]
      refine loop_next (k + 1, Hc) ⟨by (dsimp only; rw [hl1]; repeat (first | exact Agree.nil | refine Agree.cons rfl ?_)), by repeat (first | exact List.nil_sublist _ | exact List.Sublist.refl _ | apply List.Sublist.cons_cons | apply List.Sublist.cons)⟩ ⟨by omega, by rw [hc1]; exact hJ⟩ (by dsimp only; omega)
  · skip
    have hkn : k = nR s := nR_eq (by omega)
    refine TL.run1 (pure_extract rfl rfl) rfl ?_
    refine TL.nil' ?_
    refine TC.seq ?_
    refine TC.cond rfl (fun h => absurd h (by decide)) (fun _ => ?_)
    refine TC.exit ?_
    refine then_exit ?_
    refine loop_exit ?_
    refine block_here ?_
    refine then_normal ?_
    refine TC.seq ?_
    refine TC.region ?_
    refine TL.run1 (pure_move rfl) rfl ?_
    refine TL.run1 (pure_gtr rfl rfl) rfl ?_
    refine TL.nil' ?_
    first | refine TC.condD rfl (fun hc45 => ?_) (fun hc45 => ?_) | refine TC.condN rfl (fun hc45 => ?_) (fun hc45 => ?_) | refine TC.cond rfl (fun hc45 => ?_) (fun hc45 => ?_)
    · try dsimp only at hc45
      have hlast := cAll_last (cls s) (by rw [cls_len]; omega)
      rw [cls_len, ← hkn] at hlast
      have hxn := encCl_get s hlast.1
      have hend : rpos s k = s.size := by rw [hkn, nR_end]
      unfold cluR subS at hxn
      simp only [hend] at hxn
      refine TC.region ?_
      refine TL.run1 (pure_move rfl) rfl ?_
      refine TL.run1 (pure_move rfl) rfl ?_
      refine TL.run1 (pure_move rfl) rfl ?_
      refine TL.run1 (pure_build_arr Ty.pa68 Ty.zero68 (.cons rfl rfl (.one rfl) rfl (.here (.nil _)) (.cons rfl rfl (.one rfl) rfl (.skip (.here (.nil _))) (.nil _)))) rfl ?_
      first | refine TL.run1 (pure_load1 Ty.one9 rfl) rfl ?_ | refine TL.run1 (pure_load1_own Ty.one9 rfl (by repeat (first | exact List.Mem.head _ | apply List.Mem.tail)) (by repeat (first | exact DropR.zero _ | apply DropR.succ))) rfl ?_
      refine TL.run1 (pure_move rfl) rfl ?_
      refine TL.run1 (pure_slice_str Tryd.underlying9 rfl (by rfl) (by rfl) (by omega) (by omega)) rfl ?_
      refine TL.yield rfl (.right (.right (SplitR.all _))) rfl (hy _ _ Hc hxn hJ) (.cons rfl (.cons rfl .nil)) (by intro t ht; cases ht; exact (by decide : (53 : Nat) < 54)) (fun bb H1 hR => ?_)
      refine TL.perm (H' := Blk.obj g13 (.stringIter s (rpos s k)) :: Blk.box g4 92 (encM (stL (cls s) k)) :: H1) List.perm_append_comm ?_
      refine TL.nil ?_
      refine ⟨.inr rfl, [], .nil, H1, .cons _ (.cons _ (List.Sublist.refl _)), ?_⟩
      rw [encCl_len, hlast.2]
      cases bb with
      | true => exact .inl hR
      | false => exact .inr ⟨_, hR⟩
    · try dsimp only at hc45
      refine TC.skip ?_
      have h0 : (encCl s).length = 0 := by rw [encCl_len, cAll_nil _ (by rw [cls_len]; omega)]; rfl
      have hk0 : k = 0 := by omega
      subst hk0
      exact ⟨.inr rfl, [], .nil, Hc, .cons _ (.cons _ (List.Sublist.refl _)), .inl (by rw [h0]; exact hJ)⟩
set_option maxRecDepth 100000 in
theorem clusters_spec (s : ByteArray) : Fun Tryd.prog 36 [.v (.string s)] (.fn 51 [.at_ [.v (.string s)]]) := by
  refine Fun.enterF (n := 4) (rs := [.tmp 2]) Tryd.func36 rfl Tryd.ntmps36 Tryd.results36 rfl (fun w F => ?_)
  refine TC.seq ?_
  refine TC.region ?_
  refine TL.box rfl (.one rfl) rfl (fun g1 => ?_)
  refine TL.run1 (pure_assign rfl) rfl ?_
  refine TL.nil' ?_
  refine TC.seq ?_
  refine TC.region ?_
  refine TL.run1 (pure_makeFunc (.cons rfl .nil)) rfl ?_
  refine TL.run1 (pure_assign rfl) rfl ?_
  refine TL.nil' ?_
  refine TC.ret ?_
  exact retF1 (.inl rfl) rfl (.fnL (.cons (.boxS (by repeat (first | exact List.Mem.head _ | apply List.Mem.tail)) (List.cons_ne_nil _ _)) .nil))
end Go.Ob
