import Derived.Test.YtcmkgijekibdaaaS23
set_option linter.unusedVariables false
set_option linter.unusedSimpArgs false
namespace Go.Ob
open Go.Proofs

def fixS (g : Sty) (id : Int) (s : Sty) : Sty := ⟨s.id, s.kind, s.name, if s.base = id then g.base else s.base, if s.next = id then 0 else s.next, if s.base = id then mergeP g.props s.props else s.props⟩
def rmS (l : List Sty) (id : Int) : List Sty := (rmF l id).map (fixS (yF l id) id)
def rmTo (l : List Sty) (id : Int) (i : Nat) : List Sty := ((rmF l id).take i).map (fixS (yF l id) id) ++ (rmF l id).drop i
def rmUp (l : List Sty) (id : Int) (i : Nat) : List Sty := (rmF (l.take i) id).map (fixS (yF l id) id)
theorem rmTo_zero (l : List Sty) (id : Int) : rmTo l id 0 = rmF l id := by simp [rmTo]
theorem rmTo_full (l : List Sty) (id : Int) : rmTo l id (rmF l id).length = rmS l id := by simp [rmTo, rmS]
theorem rmTo_len (l : List Sty) (id : Int) (i : Nat) : (encSs (rmTo l id i)).length = (rmF l id).length := by
  simp [encSs, rmTo]; omega
theorem rmTo_cut (l : List Sty) (id : Int) (i : Nat) (h : i < (rmF l id).length) : rmTo l id i = ((rmF l id).take i).map (fixS (yF l id) id) ++ yAt (rmF l id) i :: (rmF l id).drop (i + 1) := by
  unfold rmTo
  rw [List.drop_eq_getElem_cons h]
  simp [yAt, h]
theorem rmTo_at (l : List Sty) (id : Int) (i : Nat) (h : i < (rmF l id).length) : (encSs (rmTo l id i))[i]? = some (encSt (yAt (rmF l id) i)) := by
  rw [rmTo_cut l id i h, encSs_app, List.getElem?_append_right (by simp [encSs]; omega)]
  simp [encSs, Nat.min_eq_left (Nat.le_of_lt h)]
theorem rmTo_step (l : List Sty) (id : Int) (i : Nat) (h : i < (rmF l id).length) : encSs (rmTo l id (i + 1)) = (encSs (rmTo l id i)).set i (encSt (fixS (yF l id) id (yAt (rmF l id) i))) := by
  rw [rmTo_cut l id i h, encSs_app, List.set_append_right _ _ (by simp [encSs]; omega)]
  have : rmTo l id (i + 1) = ((rmF l id).take i).map (fixS (yF l id) id) ++ fixS (yF l id) id (yAt (rmF l id) i) :: (rmF l id).drop (i + 1) := by
    unfold rmTo
    rw [takeY_snoc _ _ h]
    simp
  rw [this, encSs_app]
  simp [encSs, Nat.min_eq_left (Nat.le_of_lt h)]
theorem rmUp_step (l : List Sty) (id : Int) (j : Nat) (h : j < l.length) : encSs (rmUp l id (j + 1)) = encSs (rmUp l id j) ++ (if (yAt l j).id = id then [] else [encSt (fixS (yF l id) id (yAt l j))]) := by
  unfold rmUp
  rw [rmF_step l id j h, List.map_append, encSs_app]
  by_cases hp : (yAt l j).id = id <;> simp [hp, encSs]
theorem rmUp_full (l : List Sty) (id : Int) : rmUp l id l.length = rmS l id := by unfold rmUp rmS; rw [List.take_length]
def rmV (l : List Sty) (id : Int) : List Sty := if foundE l id = 0 then rmS l id else []
theorem yAt_mem {l : List Sty} {i : Nat} (h : i < l.length) : yAt l i ∈ l := by
  have : yAt l i = l[i] := by simp [yAt, h]
  rw [this]; exact List.getElem_mem h
theorem mem_yAt {l : List Sty} {s : Sty} (h : s ∈ l) : ∃ i, i < l.length ∧ yAt l i = s := by
  obtain ⟨i, hi, rfl⟩ := List.getElem_of_mem h
  exact ⟨i, hi, by simp [yAt, hi]⟩
theorem yF_mem {l : List Sty} {id : Int} (h : 0 ≤ findS l id) : yF l id ∈ l := by
  obtain ⟨j, h1, h2, _, _⟩ := findS_pos h
  unfold yF; rw [h2, Int.toNat_natCast]; exact yAt_mem h1
theorem Good.mem {l : List Sty} (h : Good l) {s : Sty} (hs : s ∈ l) : GoodP s.props := by
  obtain ⟨i, hi, rfl⟩ := mem_yAt hs
  exact h.props hi
theorem rmF_len (l : List Sty) (id : Int) : (rmF l id).length ≤ l.length := List.length_filter_le _ _
theorem rmF_mem {l : List Sty} {id : Int} {s : Sty} (h : s ∈ rmF l id) : s ∈ l := (List.mem_filter.1 h).1
set_option maxHeartbeats 1000000 in
set_option maxRecDepth 100000 in
theorem SRemove_spec (l : List Sty) (id : Int) (hl : l.length ≤ 1000000) (hn : ∀ i, i < l.length → (yAt l i).name.size ≤ 1000000000) (hp : ∀ i, i < l.length → (yAt l i).props.length ≤ 1000000) : Fun Try.prog 39 [.sl 6 (encSs l), .v (.int .i64 id)] (.tup [.sl 6 (encSs (rmV l id)), .v (.int .i64 (foundE l id))]) := by
  refine Fun.enterF (n := 64) (rs := [.tmp 4, .tmp 5]) Try.func39 rfl Try.ntmps39 Try.results39 rfl (fun w F => ?_)
  have hk := encSs_len l
  refine TC.seq ?_; refine TC.region ?_; refine TL.box rfl (.one rfl) rfl (fun g3 => ?_); (iterate 2 refine TL.run1 (pure_assign rfl) rfl ?_); refine TL.nil' ?_; refine TC.seq ?_; refine TC.freezeBox 3 (List.cons_ne_nil _ _) (.here _) rfl ?_; refine TC.region ?_; refine TL.run1 (pure_move rfl) rfl ?_; refine TL.run1 (pure_load1 Ty.one3 rfl) rfl ?_; refine TL.run1 (pure_call (found_spec l id hl hn hp) (.cons rfl (.cons rfl .nil)) Try.call58) rfl ?_; refine TL.run1 (pure_move rfl) rfl ?_; (iterate 2 refine TL.run1 (pure_extract rfl rfl) rfl ?_); refine TL.alloc Ty.zero28 rfl (fun g6 => ?_); refine TL.store rfl rfl (.agg _) Try.sizeOf28 rfl (by repeat (first | exact UpdR.here _ | apply UpdR.there)) (by repeat (first | exact PutR.nil _ | apply PutR.here | apply PutR.skip)) ?_; refine TL.run1 (pure_assign rfl) rfl ?_; refine TL.nil' ?_; (iterate 2 refine TC.seq ?_); refine TC.region ?_; refine TL.run1 (pure_move rfl) rfl ?_; refine TL.run1 (pure_neq rfl rfl) rfl ?_; refine TL.nil' ?_; refine TC.condD rfl (fun hc18 => ?_) (fun hc18 => ?_)
  · try dsimp only at hc18
    refine TC.seq ?_; refine TC.region ?_; refine TL.run1 (pure_move rfl) rfl ?_; refine TL.run1 (pure_assign rfl) rfl ?_; refine TL.le 4 rfl (Le.nil 6) ?_; refine TL.run1 (pure_assign rfl) rfl ?_; refine TL.nil' ?_; refine TC.ret ?_; refine then_ret ?_
    unfold rmV; rw [if_neg hc18]
    refine retF2 (.inl rfl) rfl rfl (.tupL (.cons (.same _) (.cons (.same _) .nil)))
  · try dsimp only at hc18
    have hz : foundE l id = 0 := Classical.not_not.1 hc18
    obtain ⟨hg, hfd⟩ := foundE_ok hz
    rw [foundV_is hz]
    have hkr := encSs_len (rmF l id)
    have hgp := hg.mem (yF_mem hfd)
    have hgl := hgp.len
    have hrl := rmF_len l id
    refine TC.skip' ?_; refine TC.seq ?_; refine TC.freezeBox 6 (List.cons_ne_nil _ _) (.here _) rfl ?_; refine TC.region ?_; refine TL.run1 (pure_move rfl) rfl ?_; refine TL.callD (SplitR.none _) (clone_spec l hl hp) (.cons rfl .nil) Try.call64 (fun t ht => by cases ht; exact of_decide_eq_true rfl) ?_
    rintro r2 H2 ⟨v1, rfl, rfl⟩
    simp only [List.cons_append, List.nil_append]
    refine TL.run1 (pure_makeFunc (.cons rfl .nil)) rfl ?_; refine TL.callD (SplitR.all _) (delS_spec l id v1 hl) (.cons rfl (.cons rfl .nil)) Try.call63 (fun t ht => by cases ht; exact of_decide_eq_true rfl) ?_
    rintro r2 H2 ⟨v2, rfl, rfl⟩
    simp only [List.cons_append, List.nil_append, List.append_nil]
    refine TL.run1 (pure_assign rfl) rfl ?_; refine TL.nil' ?_; (iterate 2 refine TC.seq ?_); refine TC.region ?_; refine TL.run1 (pure_move rfl) rfl ?_; refine TL.run1 (pure_len_row Ty.sl22 rfl (by repeat (first | exact List.Mem.head _ | apply List.Mem.tail))) rfl ?_; refine TL.run1 (pure_move rfl) rfl ?_; refine TL.nil' ?_; refine TC.block ?_; refine TC.loopX (X := Nat) (fun i => [(3, .at_ [.v (.int .i64 id)]), (6, .at_ [.v (.int .i64 (yF l id).id), .v (.int .i64 (yF l id).kind), .v (.string (yF l id).name), .v (.int .i64 (yF l id).base), .v (.int .i64 (yF l id).next), .sl 2 (encP (yF l id).props)]), (8, .v v2), (25, .v (.int .i64 (encSs (rmF l id)).length)), (26, .v (.int .i64 i))]) (fun i => [.row v2 28 6 (encSs (rmTo l id i))]) (fun i => (i ≤ (rmF l id).length)) (fun i => (rmF l id).length - i) (0) ⟨by skip; repeat (first | exact Agree.nil | refine Agree.cons rfl ?_), by (try dsimp only); rw [rmTo_zero]; repeat (first | exact List.nil_sublist _ | exact List.Sublist.refl _ | apply List.Sublist.cons_cons | apply List.Sublist.cons)⟩ ?_ ?_
    · skip
      exact Nat.zero_le _
    intro i
    intro h1
    show TC _ _ _ (Env.of [(3, .at_ [.v (.int .i64 id)]), (6, .at_ [.v (.int .i64 (yF l id).id), .v (.int .i64 (yF l id).kind), .v (.string (yF l id).name), .v (.int .i64 (yF l id).base), .v (.int .i64 (yF l id).next), .sl 2 (encP (yF l id).props)]), (8, .v v2), (25, .v (.int .i64 (encSs (rmF l id)).length)), (26, .v (.int .i64 i))]) [.row v2 28 6 (encSs (rmTo l id i))]
    refine TC.seq ?_; refine TC.region ?_; refine TL.run1 (pure_lss rfl rfl) rfl ?_; refine TL.nil' ?_; refine TC.seq ?_; refine TC.condD rfl (fun hc27 => ?_) (fun hc27 => ?_)
    · try dsimp only at hc27
      refine TC.skip' ?_; refine TC.seq ?_; refine TC.block ?_; refine TC.seq ?_; refine TC.region ?_; refine TL.run1 (pure_move rfl) rfl ?_; refine TL.run1 (pure_assign rfl) rfl ?_; refine TL.nil' ?_; refine TC.seq ?_
      have hi : i < (rmF l id).length := by omega
      have hxl := rmTo_len l id i
      have hx := rmTo_at l id i hi
      have hx1 : ∀ c, ((encSs (rmTo l id i)).set i c)[i]? = some c := fun c => by rw [List.getElem?_set_self]; omega
      have hyl := (hg.mem (rmF_mem (yAt_mem hi))).len
      refine TC.region ?_; (iterate 2 refine TL.run1 (pure_move rfl) rfl ?_); refine TL.indexRow Ty.sl22 rfl rfl (by repeat (first | exact List.Mem.head _ | apply List.Mem.tail)) (by omega) (by omega) rfl (fun g31 hg31 => ?_); refine TL.run1 (pure_assign rfl) rfl ?_; refine TL.nil' ?_; (iterate 2 refine TC.seq ?_); refine TC.draw Ty.follows (by kernel_rfl) ?_; refine TD.run1 (pure_move rfl) rfl ?_; refine TD.run1 (pure_nilCheck_own rfl) rfl ?_; refine TD.run1 (pure_fieldAddr_own Ty.f28_3 rfl) rfl ?_; refine TD.run1 (pure_load1_row (es := 6) (i := i) (o := 3) Ty.one3 (by decide) rfl hg31 (by repeat (first | exact List.Mem.head _ | apply List.Mem.tail)) (by omega) hx (by repeat (first | exact DropR.zero _ | apply DropR.succ))) rfl ?_; refine TD.run1 (pure_load1 Ty.one3 rfl) rfl ?_; refine TD.run1 (pure_eql rfl rfl) rfl ?_; refine TD.nil' ?_; refine TC.condD rfl (fun hc37 => ?_) (fun hc37 => ?_)
      · try dsimp only at hc37
        refine TC.drawSp 16 [9, 10, 13] [] Ty.follows (by decide) (by kernel_rfl) (by kernel_rfl) (by kernel_rfl) ?_; (iterate 2 refine TD.run1 (pure_move rfl) rfl ?_); refine TD.run1 (pure_fieldAddr Ty.f28_3 rfl (.succ (.succ (.succ (.zero _)))) (List.cons_ne_nil _ _)) rfl ?_; refine TD.run1 (pure_load1 Ty.one3 rfl) rfl ?_; refine TD.run1 (pure_fieldAddr Ty.f28_5 rfl (.succ (.succ (.succ (.succ (.succ (.zero _)))))) (List.cons_ne_nil _ _)) rfl ?_; refine TD.run1 (pure_load1 Ty.one26 rfl) rfl ?_; refine TD.run1 (pure_move rfl) rfl ?_; refine TD.run1 (pure_nilCheck_own rfl) rfl ?_; refine TD.run1 (pure_fieldAddr_own Ty.f28_5 rfl) rfl ?_; (iterate 2 refine TD.mute ?_); refine TD.run1 (pure_nilCheck_own rfl) rfl ?_; refine TD.run1 (pure_fieldAddr_own Ty.f28_3 rfl) rfl ?_; refine TD.mute ?_; refine TD.run1 (pure_nilCheck_own rfl) rfl ?_; refine TD.run1 (pure_fieldAddr_own Ty.f28_5 rfl) rfl ?_; refine TD.nil ?_; refine ⟨⟨_, SplitR.none _⟩, fun s hs hb => ?_⟩
        simp only [List.mem_cons, List.not_mem_nil, or_false] at hs
        rcases hs with rfl | hs
        rotate_left
        · rcases hs with rfl | rfl <;> exact absurd (hb 9 (by simp)) (by decide +kernel)
        refine ⟨_, rfl, rfl, fun E eF he hx0 => ?_⟩
        subst he
        refine TL.run1 (pure_load1_row (es := 6) (i := i) (o := 5) Ty.one26 (by decide) ((hx0 (.tmp 46) (by simp [Op.operands, Call.operands])).trans rfl) hg31 (by repeat (first | exact List.Mem.head _ | apply List.Mem.tail)) (by omega) hx (by repeat (first | exact DropR.zero _ | apply DropR.succ))) rfl ?_; refine TL.nil ⟨rfl, _, rfl, ?_⟩; refine ⟨⟨_, SplitR.none _⟩, fun s hs hb => ?_⟩
        rw [show ([9, 10, 13] : List Nat).erase 9 = [10, 13] from rfl] at *
        simp only [List.mem_cons, List.not_mem_nil, or_false] at hs
        rcases hs with rfl | hs
        rotate_left
        · subst hs; exact absurd (hb 10 (by simp)) (by decide +kernel)
        refine ⟨_, rfl, rfl, fun E eF he hx0 => ?_⟩
        subst he
        refine TL.run1 (pure_call (Merge_spec (yF l id).props (yAt (rmF l id) i).props (by omega) (by omega)) (.cons ((hx0 (.tmp 43) (by simp [Op.operands, Call.operands])).trans rfl) (.cons ((hx0 (.tmp 47) (by simp [Op.operands, Call.operands])).trans rfl) .nil)) Try.call52) rfl ?_; refine TL.nil ⟨rfl, _, rfl, ?_⟩; refine ⟨⟨_, SplitR.none _⟩, fun s hs hb => ?_⟩
        rw [show ([10, 13] : List Nat).erase 10 = [13] from rfl] at *
        simp only [List.mem_cons, List.not_mem_nil, or_false] at hs
        subst hs
        refine ⟨_, rfl, rfl, fun E eF he hx0 => ?_⟩
        subst he
        refine TL.storeRow (es := 6) (i := i) (o := 3) (c' := [.v (.int .i64 (yAt (rmF l id) i).id), .v (.int .i64 (yAt (rmF l id) i).kind), .v (.string (yAt (rmF l id) i).name), .v (.int .i64 (yF l id).base), .v (.int .i64 (yAt (rmF l id) i).next), .sl 2 (encP (yAt (rmF l id) i).props)]) ((hx0 (.tmp 50) (by simp [Op.operands, Call.operands])).trans rfl) hg31 (by omega) ((hx0 (.tmp 41) (by simp [Op.operands, Call.operands])).trans rfl) (.one rfl) Try.sizeOf3 rfl (by repeat (first | exact UpdR.here _ | apply UpdR.there)) hx (by repeat (first | exact PutR.nil _ | apply PutR.here | apply PutR.skip)) ?_; refine TL.nil ⟨rfl, none, rfl, ?_⟩; refine ⟨⟨_, SplitR.none _⟩, fun e he => ?_⟩
        subst he
        simp only [List.drop_succ_cons, List.drop_zero]
        refine TL.storeRow (es := 6) (i := i) (o := 5) (c' := [.v (.int .i64 (yAt (rmF l id) i).id), .v (.int .i64 (yAt (rmF l id) i).kind), .v (.string (yAt (rmF l id) i).name), .v (.int .i64 (yF l id).base), .v (.int .i64 (yAt (rmF l id) i).next), .sl 2 (encP (mergeP (yF l id).props (yAt (rmF l id) i).props))]) rfl hg31 (by omega) rfl (.one rfl) Try.sizeOf26 rfl (by repeat (first | exact UpdR.here _ | apply UpdR.there)) (hx1 _) (by repeat (first | exact PutR.nil _ | apply PutR.here | apply PutR.skip)) ?_
        rw [List.set_set]
        refine TL.nil' ?_; refine TC.seq ?_; refine TC.draw Ty.follows (by kernel_rfl) ?_; refine TD.run1 (pure_move rfl) rfl ?_; refine TD.run1 (pure_nilCheck_own rfl) rfl ?_; refine TD.run1 (pure_fieldAddr_own Ty.f28_4 rfl) rfl ?_; refine TD.run1 (pure_load1_row (es := 6) (i := i) (o := 4) Ty.one3 (by decide) rfl hg31 (by repeat (first | exact List.Mem.head _ | apply List.Mem.tail)) (by omega) (hx1 _) (by repeat (first | exact DropR.zero _ | apply DropR.succ))) rfl ?_; refine TD.run1 (pure_load1 Ty.one3 rfl) rfl ?_; refine TD.run1 (pure_eql rfl rfl) rfl ?_; refine TD.nil' ?_; refine TC.condD rfl (fun hc58 => ?_) (fun hc58 => ?_)
        · try dsimp only at hc58
          refine TC.region ?_; refine TL.run1 (pure_move rfl) rfl ?_; refine TL.run1 (pure_nilCheck_own rfl) rfl ?_; refine TL.run1 (pure_fieldAddr_own Ty.f28_4 rfl) rfl ?_; refine TL.storeRow (es := 6) (i := i) (o := 4) (c' := [.v (.int .i64 (yAt (rmF l id) i).id), .v (.int .i64 (yAt (rmF l id) i).kind), .v (.string (yAt (rmF l id) i).name), .v (.int .i64 (yF l id).base), .v (.int .i64 0), .sl 2 (encP (mergeP (yF l id).props (yAt (rmF l id) i).props))]) rfl hg31 (by omega) rfl (.one rfl) Try.sizeOf3 rfl (by repeat (first | exact UpdR.here _ | apply UpdR.there)) (hx1 _) (by repeat (first | exact PutR.nil _ | apply PutR.here | apply PutR.skip)) ?_
          rw [List.set_set]
          refine TL.nil ?_; refine block_normal ?_; refine then_normal ?_; refine TC.region ?_; refine TL.run1 (pure_add rfl rfl (mkI64 (by omega) (by omega))) rfl ?_; refine TL.run1 (pure_move rfl) rfl ?_; refine TL.nil ?_
          have hst := rmTo_step l id i hi
          have hf : encSt (fixS (yF l id) id (yAt (rmF l id) i)) = [.v (.int .i64 (yAt (rmF l id) i).id), .v (.int .i64 (yAt (rmF l id) i).kind), .v (.string (yAt (rmF l id) i).name), .v (.int .i64 (yF l id).base), .v (.int .i64 0), .sl 2 (encP (mergeP (yF l id).props (yAt (rmF l id) i).props))] := by unfold fixS; rw [if_pos hc37, if_pos hc58, if_pos hc37] <;> rfl
          rw [hf] at hst
          refine loop_next (i + 1) ⟨by ((try dsimp only); rw [show (((i + 1 : Nat)) : Int) = (i : Int) + 1 by omega]; repeat (first | exact Agree.nil | refine Agree.cons rfl ?_)), by (try dsimp only); rw [hst]; repeat (first | exact List.nil_sublist _ | exact List.Sublist.refl _ | apply List.Sublist.cons_cons | apply List.Sublist.cons)⟩ (show i + 1 ≤ _ by omega) (by omega)
        · try dsimp only at hc58
          refine TC.skip ?_; refine block_normal ?_; refine then_normal ?_; refine TC.region ?_; refine TL.run1 (pure_add rfl rfl (mkI64 (by omega) (by omega))) rfl ?_; refine TL.run1 (pure_move rfl) rfl ?_; refine TL.nil ?_
          have hst := rmTo_step l id i hi
          have hf : encSt (fixS (yF l id) id (yAt (rmF l id) i)) = [.v (.int .i64 (yAt (rmF l id) i).id), .v (.int .i64 (yAt (rmF l id) i).kind), .v (.string (yAt (rmF l id) i).name), .v (.int .i64 (yF l id).base), .v (.int .i64 (yAt (rmF l id) i).next), .sl 2 (encP (mergeP (yF l id).props (yAt (rmF l id) i).props))] := by unfold fixS; rw [if_pos hc37, if_neg hc58, if_pos hc37] <;> rfl
          rw [hf] at hst
          refine loop_next (i + 1) ⟨by ((try dsimp only); rw [show (((i + 1 : Nat)) : Int) = (i : Int) + 1 by omega]; repeat (first | exact Agree.nil | refine Agree.cons rfl ?_)), by (try dsimp only); rw [hst]; repeat (first | exact List.nil_sublist _ | exact List.Sublist.refl _ | apply List.Sublist.cons_cons | apply List.Sublist.cons)⟩ (show i + 1 ≤ _ by omega) (by omega)
      · try dsimp only at hc37
        refine TC.skip' ?_; refine TC.seq ?_; refine TC.draw Ty.follows (by kernel_rfl) ?_; refine TD.run1 (pure_move rfl) rfl ?_; refine TD.run1 (pure_nilCheck_own rfl) rfl ?_; refine TD.run1 (pure_fieldAddr_own Ty.f28_4 rfl) rfl ?_; refine TD.run1 (pure_load1_row (es := 6) (i := i) (o := 4) Ty.one3 (by decide) rfl hg31 (by repeat (first | exact List.Mem.head _ | apply List.Mem.tail)) (by omega) hx (by repeat (first | exact DropR.zero _ | apply DropR.succ))) rfl ?_; refine TD.run1 (pure_load1 Ty.one3 rfl) rfl ?_; refine TD.run1 (pure_eql rfl rfl) rfl ?_; refine TD.nil' ?_; refine TC.condD rfl (fun hc58 => ?_) (fun hc58 => ?_)
        · try dsimp only at hc58
          refine TC.region ?_; refine TL.run1 (pure_move rfl) rfl ?_; refine TL.run1 (pure_nilCheck_own rfl) rfl ?_; refine TL.run1 (pure_fieldAddr_own Ty.f28_4 rfl) rfl ?_; refine TL.storeRow (es := 6) (i := i) (o := 4) (c' := [.v (.int .i64 (yAt (rmF l id) i).id), .v (.int .i64 (yAt (rmF l id) i).kind), .v (.string (yAt (rmF l id) i).name), .v (.int .i64 (yAt (rmF l id) i).base), .v (.int .i64 0), .sl 2 (encP (yAt (rmF l id) i).props)]) rfl hg31 (by omega) rfl (.one rfl) Try.sizeOf3 rfl (by repeat (first | exact UpdR.here _ | apply UpdR.there)) hx (by repeat (first | exact PutR.nil _ | apply PutR.here | apply PutR.skip)) ?_; refine TL.nil ?_; refine block_normal ?_; refine then_normal ?_; refine TC.region ?_; refine TL.run1 (pure_add rfl rfl (mkI64 (by omega) (by omega))) rfl ?_; refine TL.run1 (pure_move rfl) rfl ?_; refine TL.nil ?_
          have hst := rmTo_step l id i hi
          have hf : encSt (fixS (yF l id) id (yAt (rmF l id) i)) = [.v (.int .i64 (yAt (rmF l id) i).id), .v (.int .i64 (yAt (rmF l id) i).kind), .v (.string (yAt (rmF l id) i).name), .v (.int .i64 (yAt (rmF l id) i).base), .v (.int .i64 0), .sl 2 (encP (yAt (rmF l id) i).props)] := by unfold fixS; rw [if_neg hc37, if_pos hc58, if_neg hc37] <;> rfl
          rw [hf] at hst
          refine loop_next (i + 1) ⟨by ((try dsimp only); rw [show (((i + 1 : Nat)) : Int) = (i : Int) + 1 by omega]; repeat (first | exact Agree.nil | refine Agree.cons rfl ?_)), by (try dsimp only); rw [hst]; repeat (first | exact List.nil_sublist _ | exact List.Sublist.refl _ | apply List.Sublist.cons_cons | apply List.Sublist.cons)⟩ (show i + 1 ≤ _ by omega) (by omega)
        · try dsimp only at hc58
          refine TC.skip ?_; refine block_normal ?_; refine then_normal ?_; refine TC.region ?_; refine TL.run1 (pure_add rfl rfl (mkI64 (by omega) (by omega))) rfl ?_; refine TL.run1 (pure_move rfl) rfl ?_; refine TL.nil ?_
          have hst := rmTo_step l id i hi
          have hf : encSt (fixS (yF l id) id (yAt (rmF l id) i)) = (encSt (yAt (rmF l id) i)) := by unfold fixS; rw [if_neg hc37, if_neg hc58, if_neg hc37] <;> rfl
          rw [hf] at hst
          rw [set_same hx] at hst
          refine loop_next (i + 1) ⟨by ((try dsimp only); rw [show (((i + 1 : Nat)) : Int) = (i : Int) + 1 by omega]; repeat (first | exact Agree.nil | refine Agree.cons rfl ?_)), by (try dsimp only); rw [hst]; repeat (first | exact List.nil_sublist _ | exact List.Sublist.refl _ | apply List.Sublist.cons_cons | apply List.Sublist.cons)⟩ (show i + 1 ≤ _ by omega) (by omega)
    · try dsimp only at hc27
      refine TC.exit ?_; refine then_exit ?_; refine loop_exit ?_; refine block_here ?_; refine then_normal ?_; refine TC.seq ?_; refine TC.region ?_; refine TL.run1 (pure_move rfl) rfl ?_; (iterate 2 refine TL.run1 (pure_assign rfl) rfl ?_); refine TL.nil' ?_; refine TC.ret ?_
      have hie : i = (rmF l id).length := by omega
      subst hie
      rw [rmTo_full]
      unfold rmV; rw [hz, if_pos rfl]
      exact retF2 (.inl rfl) rfl rfl (.tupL (.cons (.rowS (by repeat (first | exact List.Mem.head _ | apply List.Mem.tail)) (by decide) (encSs_each _)) (.cons (.same _) .nil)))
set_option maxHeartbeats 1000000 in
set_option maxRecDepth 100000 in
theorem RRemove_spec (l : List Sty) (id : Int) (hg : Good l) (hfd : 0 ≤ findS l id) : Fun Try.prog 40 [.sl 6 (encSs l), .v (.int .i64 id)] (.sl 6 (encSs (rmS l id))) := by
  refine Fun.enterF (n := 52) (rs := [.tmp 4]) Try.func40 rfl Try.ntmps40 Try.results40 rfl (fun w F => ?_)
  have hk := encSs_len l
  have hl : l.length ≤ 1000000 := by have := hg.len; omega
  have hfr := findS_range l id
  have hrow := encSs_get l (findS l id).toNat (by omega)
  rw [show (((findS l id).toNat : Nat) : Int) = findS l id by omega] at hrow
  have hgp := hg.mem (yF_mem hfd)
  refine TC.seq ?_; refine TC.region ?_; refine TL.run1 (pure_assign rfl) rfl ?_; refine TL.nil' ?_; refine TC.seq ?_; refine TC.region ?_; (iterate 3 refine TL.run1 (pure_move rfl) rfl ?_); refine TL.run1 (pure_call (RFind_spec l id hl) (.cons rfl (.cons rfl .nil)) Try.call26) rfl ?_; refine TL.run1 (pure_indexAddr Ty.sl22 rfl rfl (by omega) hrow (List.cons_ne_nil _ _)) rfl ?_; refine TL.run1 (pure_load Ty.agg28 rfl (.succ (.succ (.succ (.succ (.succ (.succ (.zero _)))))))) rfl ?_; refine TL.alloc Ty.zero28 rfl (fun g5 => ?_); refine TL.store rfl rfl (.agg _) Try.sizeOf28 rfl (by repeat (first | exact UpdR.here _ | apply UpdR.there)) (by repeat (first | exact PutR.nil _ | apply PutR.here | apply PutR.skip)) ?_; refine TL.nil' ?_; refine TC.seq ?_; refine TC.freezeBox 5 (List.cons_ne_nil _ _) (.here _) rfl ?_; refine TC.region ?_; refine TL.run1 (pure_assign rfl) rfl ?_; refine TL.nil' ?_; (iterate 2 refine TC.seq ?_); refine TC.nilrow 28 6 ?_; refine TC.region ?_; refine TL.run1 (pure_assign rfl) rfl ?_; refine TL.nil' ?_; refine TC.block ?_; refine TC.loopX (X := Nat × Value) (fun (i, v) => [(0, .sl 6 (encSs l)), (1, .v (.int .i64 id)), (5, .at_ [.v (.int .i64 (yF l id).id), .v (.int .i64 (yF l id).kind), .v (.string (yF l id).name), .v (.int .i64 (yF l id).base), .v (.int .i64 (yF l id).next), .sl 2 (encP (yF l id).props)]), (6, .v v), (7, .v (.int .i64 i))]) (fun (i, v) => [.row v 28 6 (encSs (rmUp l id i))]) (fun (i, v) => (i ≤ l.length)) (fun (i, v) => l.length - i) (0, .slice none 0 0) ⟨by skip; repeat (first | exact Agree.nil | refine Agree.cons rfl ?_), by skip; repeat (first | exact List.nil_sublist _ | exact List.Sublist.refl _ | apply List.Sublist.cons_cons | apply List.Sublist.cons)⟩ ?_ ?_
  · skip
    exact Nat.zero_le _
  rintro ⟨i, v⟩
  intro h1
  show TC _ _ _ (Env.of [(0, .sl 6 (encSs l)), (1, .v (.int .i64 id)), (5, .at_ [.v (.int .i64 (yF l id).id), .v (.int .i64 (yF l id).kind), .v (.string (yF l id).name), .v (.int .i64 (yF l id).base), .v (.int .i64 (yF l id).next), .sl 2 (encP (yF l id).props)]), (6, .v v), (7, .v (.int .i64 i))]) [.row v 28 6 (encSs (rmUp l id i))]
  (iterate 2 refine TC.seq ?_); refine TC.region ?_; (iterate 2 refine TL.run1 (pure_move rfl) rfl ?_); refine TL.run1 (pure_len Ty.sl22 rfl) rfl ?_; refine TL.run1 (pure_lss rfl rfl) rfl ?_; refine TL.nil' ?_; refine TC.condD rfl (fun hc18 => ?_) (fun hc18 => ?_)
  · try dsimp only at hc18
    refine TC.skip' ?_; refine TC.seq ?_; refine TC.block ?_; refine TC.seq ?_
    have hi : i < l.length := by omega
    have hrw := encSs_get l i hi
    have hyp := hg.mem (yAt_mem hi)
    have hul := encSs_len (rmUp l id i)
    have hul2 : (rmUp l id i).length ≤ i := by (unfold rmUp; rw [List.length_map]; exact Nat.le_trans (rmF_len _ _) (by rw [List.length_take]; omega))
    have hl8 := hg.len
    refine TC.region ?_; (iterate 2 refine TL.run1 (pure_move rfl) rfl ?_); refine TL.run1 (pure_indexAddr Ty.sl22 rfl rfl (by omega) hrw (List.cons_ne_nil _ _)) rfl ?_; refine TL.run1 (pure_load Ty.agg28 rfl (.succ (.succ (.succ (.succ (.succ (.succ (.zero _)))))))) rfl ?_; refine TL.alloc Ty.zero28 rfl (fun g8 => ?_); refine TL.store rfl rfl (.agg _) Try.sizeOf28 rfl (by repeat (first | exact UpdR.here _ | apply UpdR.there)) (by repeat (first | exact PutR.nil _ | apply PutR.here | apply PutR.skip)) ?_; refine TL.nil' ?_; (iterate 2 refine TC.seq ?_); refine TC.region ?_; refine TL.run1 (pure_fieldAddr_own Ty.f28_0 rfl) rfl ?_; refine TL.run1 (pure_load1_own Ty.one3 rfl (by repeat (first | exact List.Mem.head _ | apply List.Mem.tail)) (by repeat (first | exact DropR.zero _ | apply DropR.succ))) rfl ?_; refine TL.run1 (pure_move rfl) rfl ?_; refine TL.run1 (pure_eql rfl rfl) rfl ?_; refine TL.nil' ?_; refine TC.condD rfl (fun hc28 => ?_) (fun hc28 => ?_)
    · try dsimp only at hc28
      refine TC.exit ?_; refine then_exit ?_; refine block_here ?_; refine then_normal ?_; refine TC.region ?_; refine TL.run1 (pure_move rfl) rfl ?_; refine TL.run1 (pure_add rfl rfl (mkI64 (by omega) (by omega))) rfl ?_; refine TL.run1 (pure_assign rfl) rfl ?_; refine TL.nil ?_
      have hst := rmUp_step l id i hi
      rw [if_pos hc28, List.append_nil] at hst
      refine loop_next (i + 1, v) ⟨by ((try dsimp only); rw [show (((i + 1 : Nat)) : Int) = (i : Int) + 1 by omega]; repeat (first | exact Agree.nil | refine Agree.cons rfl ?_)), by (try dsimp only); rw [hst]; repeat (first | exact List.nil_sublist _ | exact List.Sublist.refl _ | apply List.Sublist.cons_cons | apply List.Sublist.cons)⟩ (show i + 1 ≤ _ by omega) (by (try dsimp only); omega)
    · try dsimp only at hc28
      refine TC.skip' ?_; (iterate 2 refine TC.seq ?_); refine TC.region ?_; refine TL.run1 (pure_fieldAddr_own Ty.f28_3 rfl) rfl ?_; refine TL.run1 (pure_load1_own Ty.one3 rfl (by repeat (first | exact List.Mem.head _ | apply List.Mem.tail)) (by repeat (first | exact DropR.zero _ | apply DropR.succ))) rfl ?_; refine TL.run1 (pure_move rfl) rfl ?_; refine TL.run1 (pure_eql rfl rfl) rfl ?_; refine TL.nil' ?_; refine TC.condD rfl (fun hc32 => ?_) (fun hc32 => ?_)
      · try dsimp only at hc32
        refine TC.drawSp 10 [5, 6, 8] [] Ty.follows (by decide) (by kernel_rfl) (by kernel_rfl) (by kernel_rfl) ?_; refine TD.run1 (pure_fieldAddr Ty.f28_3 rfl (.succ (.succ (.succ (.zero _)))) (List.cons_ne_nil _ _)) rfl ?_; refine TD.run1 (pure_load1 Ty.one3 rfl) rfl ?_; refine TD.run1 (pure_fieldAddr Ty.f28_5 rfl (.succ (.succ (.succ (.succ (.succ (.zero _)))))) (List.cons_ne_nil _ _)) rfl ?_; refine TD.run1 (pure_load1 Ty.one26 rfl) rfl ?_; refine TD.run1 (pure_fieldAddr_own Ty.f28_5 rfl) rfl ?_; (iterate 2 refine TD.mute ?_); refine TD.run1 (pure_fieldAddr_own Ty.f28_3 rfl) rfl ?_; refine TD.mute ?_; refine TD.run1 (pure_fieldAddr_own Ty.f28_5 rfl) rfl ?_; refine TD.nil ?_; refine ⟨⟨_, SplitR.none _⟩, fun s hs hb => ?_⟩
        simp only [List.mem_cons, List.not_mem_nil, or_false] at hs
        rcases hs with rfl | hs
        rotate_left
        · rcases hs with rfl | rfl <;> exact absurd (hb 5 (by simp)) (by decide +kernel)
        refine ⟨_, rfl, rfl, fun E eF he hx0 => ?_⟩
        subst he
        refine TL.run1 (pure_load1_own Ty.one26 ((hx0 (.tmp 37) (by simp [Op.operands, Call.operands])).trans rfl) (by repeat (first | exact List.Mem.head _ | apply List.Mem.tail)) (by repeat (first | exact DropR.zero _ | apply DropR.succ))) rfl ?_; refine TL.nil ⟨rfl, _, rfl, ?_⟩; refine ⟨⟨_, SplitR.none _⟩, fun s hs hb => ?_⟩
        rw [show ([5, 6, 8] : List Nat).erase 5 = [6, 8] from rfl] at *
        simp only [List.mem_cons, List.not_mem_nil, or_false] at hs
        rcases hs with rfl | hs
        rotate_left
        · subst hs; exact absurd (hb 6 (by simp)) (by decide +kernel)
        refine ⟨_, rfl, rfl, fun E eF he hx0 => ?_⟩
        subst he
        refine TL.run1 (pure_call (R8Mrg (yF l id).props (yAt l i).props hgp hyp) (.cons ((hx0 (.tmp 36) (by simp [Op.operands, Call.operands])).trans rfl) (.cons ((hx0 (.tmp 38) (by simp [Op.operands, Call.operands])).trans rfl) .nil)) Try.call22) rfl ?_; refine TL.nil ⟨rfl, _, rfl, ?_⟩; refine ⟨⟨_, SplitR.none _⟩, fun s hs hb => ?_⟩
        rw [show ([6, 8] : List Nat).erase 6 = [8] from rfl] at *
        simp only [List.mem_cons, List.not_mem_nil, or_false] at hs
        subst hs
        refine ⟨_, rfl, rfl, fun E eF he hx0 => ?_⟩
        subst he
        refine TL.store ((hx0 (.tmp 40) (by simp [Op.operands, Call.operands])).trans rfl) ((hx0 (.tmp 34) (by simp [Op.operands, Call.operands])).trans rfl) (.one rfl) Try.sizeOf3 rfl (by repeat (first | exact UpdR.here _ | apply UpdR.there)) (by repeat (first | exact PutR.nil _ | apply PutR.here | apply PutR.skip)) ?_; refine TL.nil ⟨rfl, none, rfl, ?_⟩; refine ⟨⟨_, SplitR.none _⟩, fun e he => ?_⟩
        subst he
        simp only [List.drop_succ_cons, List.drop_zero]
        refine TL.store rfl rfl (.one (by first | rfl | assumption)) Try.sizeOf26 rfl (by repeat (first | exact UpdR.here _ | apply UpdR.there)) (by repeat (first | exact PutR.nil _ | apply PutR.here | apply PutR.skip)) ?_; refine TL.nil' ?_; (iterate 2 refine TC.seq ?_); refine TC.region ?_; refine TL.run1 (pure_fieldAddr_own Ty.f28_4 rfl) rfl ?_; refine TL.run1 (pure_load1_own Ty.one3 rfl (by repeat (first | exact List.Mem.head _ | apply List.Mem.tail)) (by repeat (first | exact DropR.zero _ | apply DropR.succ))) rfl ?_; refine TL.run1 (pure_move rfl) rfl ?_; refine TL.run1 (pure_eql rfl rfl) rfl ?_; refine TL.nil' ?_; refine TC.condD rfl (fun hc45 => ?_) (fun hc45 => ?_)
        · try dsimp only at hc45
          refine TC.region ?_; refine TL.run1 (pure_fieldAddr_own Ty.f28_4 rfl) rfl ?_; refine TL.store rfl rfl (.one (by first | rfl | assumption)) Try.sizeOf3 rfl (by repeat (first | exact UpdR.here _ | apply UpdR.there)) (by repeat (first | exact PutR.nil _ | apply PutR.here | apply PutR.skip)) ?_; refine TL.nil' ?_; refine TC.region ?_; refine TL.run1 (pure_move rfl) rfl ?_; refine TL.run1 (pure_load_own Ty.agg28 rfl (by repeat (first | exact List.Mem.head _ | apply List.Mem.tail)) (by repeat (first | exact DropR.zero _ | apply DropR.succ)) (.succ (.succ (.succ (.succ (.succ (.succ (.zero _)))))))) rfl ?_; refine TL.run1 (pure_buildSlice (xs := [.tmp 48]) Ty.app22 (by decide) rfl rfl (.cons rfl (.agg _) rfl .nil)) rfl ?_; refine TL.append Ty.app22 rfl rfl (by intro _; repeat (first | exact UpdR.here _ | apply UpdR.there)) (by simp only [List.length_append, List.length_cons, List.length_nil]; omega) (by simp only [List.length_append, List.length_cons, List.length_nil]; omega) rfl (fun v50 hv50 => ?_); refine TL.run1 (pure_assign rfl) rfl ?_; refine TL.nil ?_; refine block_normal ?_; refine then_normal ?_; refine TC.region ?_; refine TL.run1 (pure_move rfl) rfl ?_; refine TL.run1 (pure_add rfl rfl (mkI64 (by omega) (by omega))) rfl ?_; refine TL.run1 (pure_assign rfl) rfl ?_; refine TL.nil ?_
          have hst := rmUp_step l id i hi
          have hf : encSt (fixS (yF l id) id (yAt l i)) = [.v (.int .i64 (yAt l i).id), .v (.int .i64 (yAt l i).kind), .v (.string (yAt l i).name), .v (.int .i64 (yF l id).base), .v (.int .i64 0), .sl 2 (encP (mergeP (yF l id).props (yAt l i).props))] := by unfold fixS; rw [if_pos hc32, if_pos hc45, if_pos hc32] <;> rfl
          rw [if_neg hc28, hf] at hst
          refine loop_next (i + 1, v50) ⟨by ((try dsimp only); rw [show (((i + 1 : Nat)) : Int) = (i : Int) + 1 by omega]; repeat (first | exact Agree.nil | refine Agree.cons rfl ?_)), by (try dsimp only); rw [hst]; repeat (first | exact List.nil_sublist _ | exact List.Sublist.refl _ | apply List.Sublist.cons_cons | apply List.Sublist.cons)⟩ (show i + 1 ≤ _ by omega) (by (try dsimp only); omega)
        · try dsimp only at hc45
          refine TC.skip' ?_; refine TC.region ?_; refine TL.run1 (pure_move rfl) rfl ?_; refine TL.run1 (pure_load_own Ty.agg28 rfl (by repeat (first | exact List.Mem.head _ | apply List.Mem.tail)) (by repeat (first | exact DropR.zero _ | apply DropR.succ)) (.succ (.succ (.succ (.succ (.succ (.succ (.zero _)))))))) rfl ?_; refine TL.run1 (pure_buildSlice (xs := [.tmp 48]) Ty.app22 (by decide) rfl rfl (.cons rfl (.agg _) rfl .nil)) rfl ?_; refine TL.append Ty.app22 rfl rfl (by intro _; repeat (first | exact UpdR.here _ | apply UpdR.there)) (by simp only [List.length_append, List.length_cons, List.length_nil]; omega) (by simp only [List.length_append, List.length_cons, List.length_nil]; omega) rfl (fun v50 hv50 => ?_); refine TL.run1 (pure_assign rfl) rfl ?_; refine TL.nil ?_; refine block_normal ?_; refine then_normal ?_; refine TC.region ?_; refine TL.run1 (pure_move rfl) rfl ?_; refine TL.run1 (pure_add rfl rfl (mkI64 (by omega) (by omega))) rfl ?_; refine TL.run1 (pure_assign rfl) rfl ?_; refine TL.nil ?_
          have hst := rmUp_step l id i hi
          have hf : encSt (fixS (yF l id) id (yAt l i)) = [.v (.int .i64 (yAt l i).id), .v (.int .i64 (yAt l i).kind), .v (.string (yAt l i).name), .v (.int .i64 (yF l id).base), .v (.int .i64 (yAt l i).next), .sl 2 (encP (mergeP (yF l id).props (yAt l i).props))] := by unfold fixS; rw [if_pos hc32, if_neg hc45, if_pos hc32] <;> rfl
          rw [if_neg hc28, hf] at hst
          refine loop_next (i + 1, v50) ⟨by ((try dsimp only); rw [show (((i + 1 : Nat)) : Int) = (i : Int) + 1 by omega]; repeat (first | exact Agree.nil | refine Agree.cons rfl ?_)), by (try dsimp only); rw [hst]; repeat (first | exact List.nil_sublist _ | exact List.Sublist.refl _ | apply List.Sublist.cons_cons | apply List.Sublist.cons)⟩ (show i + 1 ≤ _ by omega) (by (try dsimp only); omega)
      · try dsimp only at hc32
        refine TC.skip' ?_; (iterate 2 refine TC.seq ?_); refine TC.region ?_; refine TL.run1 (pure_fieldAddr_own Ty.f28_4 rfl) rfl ?_; refine TL.run1 (pure_load1_own Ty.one3 rfl (by repeat (first | exact List.Mem.head _ | apply List.Mem.tail)) (by repeat (first | exact DropR.zero _ | apply DropR.succ))) rfl ?_; refine TL.run1 (pure_move rfl) rfl ?_; refine TL.run1 (pure_eql rfl rfl) rfl ?_; refine TL.nil' ?_; refine TC.condD rfl (fun hc45 => ?_) (fun hc45 => ?_)
        · try dsimp only at hc45
          refine TC.region ?_; refine TL.run1 (pure_fieldAddr_own Ty.f28_4 rfl) rfl ?_; refine TL.store rfl rfl (.one (by first | rfl | assumption)) Try.sizeOf3 rfl (by repeat (first | exact UpdR.here _ | apply UpdR.there)) (by repeat (first | exact PutR.nil _ | apply PutR.here | apply PutR.skip)) ?_; refine TL.nil' ?_; refine TC.region ?_; refine TL.run1 (pure_move rfl) rfl ?_; refine TL.run1 (pure_load_own Ty.agg28 rfl (by repeat (first | exact List.Mem.head _ | apply List.Mem.tail)) (by repeat (first | exact DropR.zero _ | apply DropR.succ)) (.succ (.succ (.succ (.succ (.succ (.succ (.zero _)))))))) rfl ?_; refine TL.run1 (pure_buildSlice (xs := [.tmp 48]) Ty.app22 (by decide) rfl rfl (.cons rfl (.agg _) rfl .nil)) rfl ?_; refine TL.append Ty.app22 rfl rfl (by intro _; repeat (first | exact UpdR.here _ | apply UpdR.there)) (by simp only [List.length_append, List.length_cons, List.length_nil]; omega) (by simp only [List.length_append, List.length_cons, List.length_nil]; omega) rfl (fun v50 hv50 => ?_); refine TL.run1 (pure_assign rfl) rfl ?_; refine TL.nil ?_; refine block_normal ?_; refine then_normal ?_; refine TC.region ?_; refine TL.run1 (pure_move rfl) rfl ?_; refine TL.run1 (pure_add rfl rfl (mkI64 (by omega) (by omega))) rfl ?_; refine TL.run1 (pure_assign rfl) rfl ?_; refine TL.nil ?_
          have hst := rmUp_step l id i hi
          have hf : encSt (fixS (yF l id) id (yAt l i)) = [.v (.int .i64 (yAt l i).id), .v (.int .i64 (yAt l i).kind), .v (.string (yAt l i).name), .v (.int .i64 (yAt l i).base), .v (.int .i64 0), .sl 2 (encP (yAt l i).props)] := by unfold fixS; rw [if_neg hc32, if_pos hc45, if_neg hc32] <;> rfl
          rw [if_neg hc28, hf] at hst
          refine loop_next (i + 1, v50) ⟨by ((try dsimp only); rw [show (((i + 1 : Nat)) : Int) = (i : Int) + 1 by omega]; repeat (first | exact Agree.nil | refine Agree.cons rfl ?_)), by (try dsimp only); rw [hst]; repeat (first | exact List.nil_sublist _ | exact List.Sublist.refl _ | apply List.Sublist.cons_cons | apply List.Sublist.cons)⟩ (show i + 1 ≤ _ by omega) (by (try dsimp only); omega)
        · try dsimp only at hc45
          refine TC.skip' ?_; refine TC.region ?_; refine TL.run1 (pure_move rfl) rfl ?_; refine TL.run1 (pure_load_own Ty.agg28 rfl (by repeat (first | exact List.Mem.head _ | apply List.Mem.tail)) (by repeat (first | exact DropR.zero _ | apply DropR.succ)) (.succ (.succ (.succ (.succ (.succ (.succ (.zero _)))))))) rfl ?_; refine TL.run1 (pure_buildSlice (xs := [.tmp 48]) Ty.app22 (by decide) rfl rfl (.cons rfl (.agg _) rfl .nil)) rfl ?_; refine TL.append Ty.app22 rfl rfl (by intro _; repeat (first | exact UpdR.here _ | apply UpdR.there)) (by simp only [List.length_append, List.length_cons, List.length_nil]; omega) (by simp only [List.length_append, List.length_cons, List.length_nil]; omega) rfl (fun v50 hv50 => ?_); refine TL.run1 (pure_assign rfl) rfl ?_; refine TL.nil ?_; refine block_normal ?_; refine then_normal ?_; refine TC.region ?_; refine TL.run1 (pure_move rfl) rfl ?_; refine TL.run1 (pure_add rfl rfl (mkI64 (by omega) (by omega))) rfl ?_; refine TL.run1 (pure_assign rfl) rfl ?_; refine TL.nil ?_
          have hst := rmUp_step l id i hi
          have hf : encSt (fixS (yF l id) id (yAt l i)) = [.v (.int .i64 (yAt l i).id), .v (.int .i64 (yAt l i).kind), .v (.string (yAt l i).name), .v (.int .i64 (yAt l i).base), .v (.int .i64 (yAt l i).next), .sl 2 (encP (yAt l i).props)] := by unfold fixS; rw [if_neg hc32, if_neg hc45, if_neg hc32] <;> rfl
          rw [if_neg hc28, hf] at hst
          refine loop_next (i + 1, v50) ⟨by ((try dsimp only); rw [show (((i + 1 : Nat)) : Int) = (i : Int) + 1 by omega]; repeat (first | exact Agree.nil | refine Agree.cons rfl ?_)), by (try dsimp only); rw [hst]; repeat (first | exact List.nil_sublist _ | exact List.Sublist.refl _ | apply List.Sublist.cons_cons | apply List.Sublist.cons)⟩ (show i + 1 ≤ _ by omega) (by (try dsimp only); omega)
  · try dsimp only at hc18
    refine TC.exit ?_; refine then_exit ?_; refine loop_exit ?_; refine block_here ?_; refine then_normal ?_; refine TC.seq ?_; refine TC.region ?_; refine TL.run1 (pure_move rfl) rfl ?_; refine TL.run1 (pure_assign rfl) rfl ?_; refine TL.nil' ?_; refine TC.ret ?_
    have hie : i = l.length := by omega
    subst hie
    rw [rmUp_full]
    exact retF_row rfl (by repeat (first | exact List.Mem.head _ | apply List.Mem.tail)) (by decide) (encSs_each _) rfl
end Go.Ob
