import Derived.Test.YtcfnfioefbkamaaDoorS3
set_option linter.unusedVariables false
set_option linter.unusedSimpArgs false
namespace Go.Ob
open Go.Proofs
set_option maxRecDepth 100000 in
theorem tokens_spec (c b : List Int) : CallD Tryd.prog 32 [.sl 3 ((encK c b).drop 0)] [] (fun r H' => ∃ g, r = .fn 56 [.v (.pointer (some ⟨g, 0, none⟩))] ∧ H' = [.box g 62 [.sl 3 ((encK c b).drop 0)]]) := by
  refine CallD.enter (n := 4) (rs := [.tmp 2]) Tryd.func32 rfl Tryd.ntmps32 Tryd.results32 rfl (fun w F => ?_); refine TC.seq ?_; refine TC.region ?_; refine TL.box rfl (.one rfl) rfl (fun g1 => ?_); refine TL.run1 (pure_assign rfl) rfl ?_; refine TL.nil' ?_; refine TC.seq ?_; refine TC.region ?_; refine TL.run1 (pure_makeFunc (.cons rfl .nil)) rfl ?_; refine TL.run1 (pure_assign rfl) rfl ?_; refine TL.nil' ?_; refine TC.ret ?_
  exact ⟨.inl rfl, [_], .tmp rfl .nil, _, List.Sublist.refl _, _, rfl, rfl⟩
set_option maxRecDepth 100000 in
theorem AppendSeq_spec (c b : List Int) (g : Nat) (hc : c.length ≤ 1000000000) : CallD Tryd.prog 55 [.v (.slice none 0 0), .fn 56 [.v (.pointer (some ⟨g, 0, none⟩))]] [.box g 62 [.sl 3 ((encK c b).drop 0)]] (fun r H' => ∃ v, r = .v v ∧ H' = [.row v 32 3 (encTk c b)]) := by
  refine CallD.enter (n := 13) (rs := [.tmp 4]) Tryd.func55 rfl Tryd.ntmps55 Tryd.results55 rfl (fun w F => ?_); refine TC.seq ?_; refine TC.nilrow 32 3 ?_; refine TC.region ?_; refine TL.box rfl (.one rfl) rfl (fun g2 => ?_); refine TL.run1 (pure_assign rfl) rfl ?_; refine TL.nil' ?_; (iterate 2 refine TC.seq ?_); refine TC.perm (H' := [.box g 62 [.sl 3 ((encK c b).drop 0)], .box g2 23 [.v (.slice none 0 0)], .row (.slice none 0 0) 32 3 []]) (by first | exact List.Perm.refl _ | exact (List.perm_append_comm (l₁ := [_, _]) (l₂ := [_]))) ?_; refine TC.region ?_; refine TL.run1 (pure_move rfl) rfl ?_; refine TL.nil' ?_; refine TC.block ?_; refine TC.rangeFuncB (xs := (encTy c b)) rfl rfl Tryd.call56 (tok_seq c b g hc) (fun k H => ∃ v, List.Sublist [Blk.box g2 23 [.v v], .row v 32 3 ((encTk c b).take k)] H) (fun _ _ => False) ⟨.slice none 0 0, by repeat (first | exact List.nil_sublist _ | exact List.Sublist.refl _ | apply List.Sublist.cons_cons | apply List.Sublist.cons)⟩ ?_ (by rfl) ?_ ?_ ?_ ?_
  · skip
    intro x hx
    obtain ⟨k, hk⟩ := List.getElem?_of_mem hx
    obtain ⟨_, rfl⟩ := encTy_mem hk
    rfl
  · skip
    rintro k x Hc w F S l hx ⟨v, hsub⟩
    refine TC.forget (fun _ _ h => h) hsub ?_
    obtain ⟨hk, rfl⟩ := encTy_mem hx
    have htl : ((encTk c b).take k).length ≤ k := by rw [List.length_take]; omega
    have htt := encTk_take c b k hk
    have hnt := nT_le c
    refine TC.region ?_; refine TL.alloc Ty.zero32 rfl (fun g5 => ?_); refine TL.store rfl rfl (.agg _) Tryd.sizeOf32 rfl (by repeat (first | exact UpdR.here _ | apply UpdR.there)) (by repeat (first | exact PutR.nil _ | apply PutR.here | apply PutR.skip)) ?_; refine TL.nil ?_; refine ⟨rfl, fun w F S => ?_⟩; refine TC.block ?_; refine TC.region ?_; refine TL.run1 (pure_load1_own Ty.one23 rfl (by repeat (first | exact List.Mem.head _ | apply List.Mem.tail)) (by repeat (first | exact DropR.zero _ | apply DropR.succ))) rfl ?_; refine TL.run1 (pure_load_own Ty.agg32 rfl (by repeat (first | exact List.Mem.head _ | apply List.Mem.tail)) (by repeat (first | exact DropR.zero _ | apply DropR.succ)) (.succ (.succ (.succ (.zero _))))) rfl ?_; refine TL.run1 (pure_buildSlice (xs := [.tmp 9]) Ty.app23 (by decide) rfl rfl (.cons rfl (.agg _) rfl .nil)) rfl ?_; refine TL.append Ty.app23 rfl rfl (by intro _; repeat (first | exact UpdR.here _ | apply UpdR.there)) (by simp only [List.length_append, List.length_cons, List.length_nil]; omega) (by simp only [List.length_append, List.length_cons, List.length_nil]; omega) rfl (fun v11 hv11 => ?_); refine TL.store rfl rfl (.one (by first | rfl | assumption)) Tryd.sizeOf23 rfl (by repeat (first | exact UpdR.here _ | apply UpdR.there)) (by repeat (first | exact PutR.nil _ | apply PutR.here | apply PutR.skip)) ?_; refine TL.nil ?_; refine block_normal ?_
    exact ⟨_, by rw [htt]; first | exact List.Sublist.refl _ | (repeat (first | exact List.Sublist.refl _ | exact List.nil_sublist _ | apply List.Sublist.cons_cons | apply List.Sublist.cons))⟩
  · skip
    rintro Hc ⟨v, hsub⟩
    refine block_normal ?_; refine then_normal ?_; refine TC.seq ?_; refine TC.forget (fun _ _ h => h) hsub ?_; refine TC.region ?_; refine TL.run1 (pure_load1_own Ty.one23 rfl (by repeat (first | exact List.Mem.head _ | apply List.Mem.tail)) (by repeat (first | exact DropR.zero _ | apply DropR.succ))) rfl ?_; refine TL.run1 (pure_assign rfl) rfl ?_; refine TL.nil' ?_; refine TC.ret ?_
    exact ⟨.inl rfl, [.v v], .tmp rfl .nil, [.row v 32 3 (encTk c b)], by rw [take_all_of (encTk c b) _ (by rw [encTy_len, encTk_len])]; repeat (first | exact List.nil_sublist _ | exact List.Sublist.refl _ | apply List.Sublist.cons_cons | apply List.Sublist.cons), v, rfl, rfl⟩
  · skip
    first | exact fun _ h => h.elim | exact fun _ _ h => h.elim
  · skip
    first | exact fun _ h => h.elim | exact fun _ _ h => h.elim
set_option maxRecDepth 100000 in
theorem Collect_spec (c b : List Int) (g : Nat) (hc : c.length ≤ 1000000000) : CallD Tryd.prog 31 [.fn 56 [.v (.pointer (some ⟨g, 0, none⟩))]] [.box g 62 [.sl 3 ((encK c b).drop 0)]] (fun r H' => ∃ v, r = .v v ∧ H' = [.row v 32 3 (encTk c b)]) := by
  refine CallD.enter (n := 5) (rs := [.tmp 2]) Tryd.func31 rfl Tryd.ntmps31 Tryd.results31 rfl (fun w F => ?_); refine TC.seq ?_; refine TC.region ?_; refine TL.run1 (pure_assign rfl) rfl ?_; refine TL.nil' ?_; refine TC.seq ?_; refine TC.region ?_; refine TL.run1 (pure_move rfl) rfl ?_; refine TL.callD (SplitR.all _) (AppendSeq_spec c b g hc) (.cons rfl (.cons rfl .nil)) Tryd.call55 (fun t ht => by cases ht; exact of_decide_eq_true rfl) ?_
  rintro r2 H2 ⟨v4, rfl, rfl⟩
  simp only [List.append_nil]
  refine TL.run1 (pure_assign rfl) rfl ?_; refine TL.nil' ?_; refine TC.ret ?_
  exact ⟨.inl rfl, [.v v4], .tmp rfl .nil, _, List.Sublist.refl _, v4, rfl, rfl⟩
set_option maxRecDepth 100000 in
theorem Tokens_spec (s : ByteArray) (hs : s.size ≤ 500000000) : Fun Tryd.prog 13 [.v (.string s)] (.tup [.sl 3 (tokV s), .v (.int .i64 (errU s))]) := by
  refine Fun.enterF (n := 17) (rs := [.tmp 2, .tmp 3]) Tryd.func13 rfl Tryd.ntmps13 Tryd.results13 rfl (fun w F => ?_); refine TC.seq ?_; refine TC.region ?_; (iterate 2 refine TL.run1 (pure_assign rfl) rfl ?_); refine TL.nil' ?_; refine TC.seq ?_; refine TC.region ?_; refine TL.run1 (pure_move rfl) rfl ?_; refine TL.run1 (pure_call (clusters3_spec s (by omega)) (.cons rfl .nil) Tryd.call30) rfl ?_; refine TL.run1 (pure_move rfl) rfl ?_; (iterate 2 refine TL.run1 (pure_extract rfl rfl) rfl ?_); (iterate 2 refine TL.run1 (pure_assign rfl) rfl ?_); refine TL.nil' ?_; (iterate 2 refine TC.seq ?_); refine TC.region ?_; refine TL.run1 (pure_move rfl) rfl ?_; refine TL.run1 (pure_neq rfl rfl) rfl ?_; refine TL.nil' ?_; refine TC.condD rfl (fun hc12 => ?_) (fun hc12 => ?_)
  · try dsimp only at hc12
    have hok : okS s = false := errU_bad0 hc12
    refine TC.seq ?_; refine TC.nilrow 32 3 ?_; refine TC.region ?_; refine TL.run1 (pure_move rfl) rfl ?_; (iterate 2 refine TL.run1 (pure_assign rfl) rfl ?_); refine TL.nil' ?_; refine TC.ret ?_; refine then_ret ?_
    unfold tokV errU; rw [hok]
    exact retF2 (.inl rfl) rfl rfl (.tupL (.cons (.rowS (v := .slice none 0 0) (e := 32) (xs := []) (by repeat (first | exact List.Mem.head _ | apply List.Mem.tail)) (by decide) (by simp)) (.cons (.same _) .nil)))
  · try dsimp only at hc12
    have hok : okS s = true := errU_ok0 hc12
    obtain ⟨v1, _, v3, _, v5⟩ := okV hok
    have hkv : kluV s = (encK (scL s) (bnds (cls s))).drop 0 := by unfold kluV; rw [if_pos hok, List.drop_zero]
    rw [hkv]
    have hcl := cAll_len_le (cls s)
    rw [cls_len] at hcl
    have hnl := nR_le s
    have hsl := scL_len s
    refine TC.skip' ?_; refine TC.seq ?_; refine TC.region ?_; refine TL.run1 (pure_move rfl) rfl ?_; refine TL.callD (SplitR.none _) (tokens_spec (scL s) (bnds (cls s))) (.cons rfl .nil) Tryd.call32 (fun t ht => by cases ht; exact of_decide_eq_true rfl) ?_
    rintro r2 H2 ⟨g, rfl, rfl⟩
    refine TL.callD (SplitR.all _) (Collect_spec (scL s) (bnds (cls s)) g (by omega)) (.cons rfl .nil) Tryd.call31 (fun t ht => by cases ht; exact of_decide_eq_true rfl) ?_
    rintro r2 H2 ⟨v4, rfl, rfl⟩
    simp only [List.append_nil]
    (iterate 2 refine TL.run1 (pure_assign rfl) rfl ?_); refine TL.nil' ?_; refine TC.ret ?_
    unfold tokV; rw [v5, if_pos hok]
    exact retF2 (.inl rfl) rfl rfl (.tupL (.cons (.rowS (by repeat (first | exact List.Mem.head _ | apply List.Mem.tail)) (by decide) (encTk_each _ _)) (.cons (.same _) .nil)))
end Go.Ob
