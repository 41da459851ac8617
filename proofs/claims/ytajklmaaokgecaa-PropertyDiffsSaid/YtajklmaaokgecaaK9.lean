import Derived.Test.YtajklmaaokgecaaM3
set_option linter.unusedVariables false
set_option linter.unusedSimpArgs false
namespace Go.Ob
open Go.Proofs

theorem hAt_take (l : List Ch) (n : Nat) (i : Int) (h0 : 0 ≤ i) (h1 : i < (l.take n).length) : hAt (l.take n) i = hAt l i := by
  rw [List.length_take] at h1
  have h2 : i.toNat < n := by omega
  have h3 : i.toNat < l.length := by omega
  simp [hAt, h2, h3]
theorem encD_take (l : List Ch) (n : Nat) : (encD l).take n = encD (l.take n) := by simp [encD]
set_option maxRecDepth 100000 in
theorem Apply_spec (l : List (Int × Int)) (cs : List Ch) (hinc : Inc (keysP l)) (hl : l.length + cs.length ≤ 1000000) : Fun Try.prog 41 [.sl 2 (encP l), .sl 5 (encD cs)] (.tup [.sl 2 (encP ((applyAll l cs).getD [])), .v (.int .i64 (if (applyAll l cs).isSome = true then 0 else 23))]) := by
  refine Fun.enter (n := 53) (rs := [.tmp 4, .tmp 5]) Try.func41 rfl Try.ntmps41 Try.results41 rfl (fun w F => ?_)
  have hk := encD_len cs
  have hll : l.length ≤ 1000000 := by omega
  refine TC.seq ?_
  refine TC.region ?_
  refine TL.run1 (pure_assign rfl) rfl ?_
  refine TL.run1 (pure_assign rfl) rfl ?_
  refine TL.nil' ?_
  refine TC.seq ?_
  refine TC.region ?_
  refine TL.run1 (pure_move rfl) rfl ?_
  refine TL.callD (H1 := []) (H2 := _) (SplitR.none _) (Clone_spec l hll) (.cons rfl .nil) Try.call51 (fun t ht => by cases ht; exact of_decide_eq_true rfl) ?_
  rintro r1 H1 ⟨v1, rfl, rfl⟩
  show TL _ _ _ _ _ [Blk.row v1 59 2 (encP l)]
  refine TL.run1 (pure_assign rfl) rfl ?_
  refine TL.nil' ?_
  refine TC.seq ?_
  refine TC.seq ?_
  refine TC.frz 6 [] (List.nil_sublist _) rfl (.rowS (gone_nil (by repeat (first | exact List.Mem.head _ | apply List.Mem.tail))) (by decide) (encP_each _)) ?_
  refine TC.region ?_
  refine TL.run1 (pure_move rfl) rfl ?_
  first | refine TL.run1 (pure_len Ty.sl61 rfl) rfl ?_ | refine TL.run1 (pure_len_row Ty.sl61 rfl (by repeat (first | exact List.Mem.head _ | apply List.Mem.tail))) rfl ?_ | refine TL.run1 (pure_len_nil Ty.sl61 rfl) rfl ?_
  refine TL.run1 (pure_move rfl) rfl ?_
  refine TL.nil' ?_
  refine TC.block ?_
  refine TC.loopX (X := Int × List (Int × Int)) (fun (i, x) => [(6, .sl 2 (encP x)), (13, .sl 5 (encD cs)), (14, .v (.int .i64 cs.length)), (15, .v (.int .i64 i))]) (fun (i, x) => []) (fun (i, x) => (0 ≤ i) ∧ (i ≤ cs.length) ∧ (applyAll l (cs.take i.toNat) = some x) ∧ (Inc (keysP x)) ∧ ((x.length : Int) ≤ l.length + i)) (fun (i, x) => (cs.length - i).toNat) (0, l) ⟨by rw [encD_len]; repeat (first | exact Agree.nil | refine Agree.cons rfl ?_), by skip; repeat (first | exact List.nil_sublist _ | exact List.Sublist.refl _ | apply List.Sublist.cons_cons | apply List.Sublist.cons)⟩ ?_ ?_
  · skip
    exact ⟨by omega, by omega, rfl, hinc, by omega⟩
  rintro ⟨i, x⟩
  rintro ⟨h0, h1, h2, h3, h4⟩
  show TC _ _ _ (Env.of [(6, .sl 2 (encP x)), (13, .sl 5 (encD cs)), (14, .v (.int .i64 cs.length)), (15, .v (.int .i64 i))]) []
  refine TC.seq ?_
  refine TC.region ?_
  refine TL.run1 (pure_lss rfl rfl) rfl ?_
  refine TL.nil' ?_
  refine TC.seq ?_
  first | refine TC.condD rfl (fun hc16 => ?_) (fun hc16 => ?_) | refine TC.condN rfl (fun hc16 => ?_) (fun hc16 => ?_) | refine TC.cond rfl (fun hc16 => ?_) (fun hc16 => ?_)
  · try dsimp only at hc16
    refine TC.skip' ?_
    refine TC.seq ?_
    refine TC.block ?_
    refine TC.seq ?_
    have hrow := encD_get cs i h0 (by omega)
    have hxl : x.length ≤ 1000000 := by omega
    refine TC.region ?_
    refine TL.run1 (pure_indexAddr Ty.sl61 rfl rfl (by omega) (by assumption) (List.cons_ne_nil _ _)) rfl ?_
    first | refine TL.run1 (pure_load Ty.agg65 rfl (.succ (.succ (.succ (.succ (.succ (.zero _))))))) rfl ?_ | refine TL.run1 (pure_load_own Ty.agg65 rfl (by repeat (first | exact List.Mem.head _ | apply List.Mem.tail)) (by repeat (first | exact DropR.zero _ | apply DropR.succ)) (.succ (.succ (.succ (.succ (.succ (.zero _))))))) rfl ?_
    refine TL.alloc Ty.zero65 rfl (fun g8 => ?_)
    refine TL.store rfl rfl (.agg _) Try.sizeOf65 rfl (by repeat (first | exact UpdR.here _ | apply UpdR.there)) (by repeat (first | exact PutR.nil _ | apply PutR.here | apply PutR.skip)) ?_
    refine TL.nil' ?_
    refine TC.seq ?_
    refine TC.seq ?_
    refine TC.region ?_
    refine TL.run1 (pure_move rfl) rfl ?_
    first | refine TL.run1 (pure_fieldAddr Ty.f65_0 rfl (.zero _) (List.cons_ne_nil _ _)) rfl ?_ | refine TL.run1 (pure_fieldAddr_own Ty.f65_0 rfl) rfl ?_
    first | refine TL.run1 (pure_load1 Ty.one3 rfl) rfl ?_ | refine TL.run1 (pure_load1_own Ty.one3 rfl (by repeat (first | exact List.Mem.head _ | apply List.Mem.tail)) (by repeat (first | exact DropR.zero _ | apply DropR.succ))) rfl ?_
    refine TL.run1 (pure_call (getPr_spec x _ h3 hxl) (.cons rfl (.cons rfl .nil)) Try.call28) rfl ?_
    refine TL.run1 (pure_move rfl) rfl ?_
    refine TL.run1 (pure_extract rfl rfl) rfl ?_
    refine TL.run1 (pure_extract rfl rfl) rfl ?_
    refine TL.run1 (pure_assign rfl) rfl ?_
    refine TL.run1 (pure_assign rfl) rfl ?_
    refine TL.nil' ?_
    rw [in_look h3, getP_look]
    refine TC.regionCut [26, 27, 28, 29, 30, 31, 32, 33, 34, 35, 36, 37, 38] 38 ((lookP x (hAt cs i).key).isSome ≠ (hAt cs i).had ∨ ((lookP x (hAt cs i).key).isSome = true ∧ (lookP x (hAt cs i).key).getD 0 ≠ (hAt cs i).old)) ?_ ?_
    · skip
      refine TL.run1 (pure_move rfl) rfl ?_
      first | refine TL.run1 (pure_fieldAddr Ty.f65_3 rfl (.succ (.succ (.succ (.zero _)))) (List.cons_ne_nil _ _)) rfl ?_ | refine TL.run1 (pure_fieldAddr_own Ty.f65_3 rfl) rfl ?_
      first | refine TL.run1 (pure_load1 Ty.one4 rfl) rfl ?_ | refine TL.run1 (pure_load1_own Ty.one4 rfl (by repeat (first | exact List.Mem.head _ | apply List.Mem.tail)) (by repeat (first | exact DropR.zero _ | apply DropR.succ))) rfl ?_
      refine TL.run1 (pure_neq_bool Try.underlying4 rfl rfl) rfl ?_
      refine TL.run1 (pure_move rfl) rfl ?_
      first | refine TL.splitP 30 rfl (fun hg30 => ?_) (fun hg30 => ?_) | refine TL.split 30 rfl (fun hg30 => ?_) (fun hg30 => ?_)
      · try dsimp only at hg30
        refine TL.passG rfl rfl rfl rfl ?_
        refine TL.passG rfl rfl rfl rfl ?_
        refine TL.passG rfl rfl rfl rfl ?_
        refine TL.passG rfl rfl rfl rfl ?_
        refine TL.passG rfl rfl rfl rfl ?_
        refine TL.passG rfl rfl rfl rfl ?_
        refine TL.passG rfl rfl rfl rfl ?_
        refine TL.run1 (pure_pick_true rfl rfl) rfl ?_
        refine TL.cutEnd (by repeat (first | exact Same.refl _ _ | refine Same.put rfl ?_)) rfl ?_
        first | (simp only [decide_eq_true_eq, Bool.false_eq_true, false_iff, true_iff, iff_true, iff_false, Bool.not_eq_true]; omega) | (simp_all; done) | (simp_all; omega) | grind
      · try dsimp only at hg30
        refine TL.runG rfl rfl (pure_move rfl) rfl ?_
        refine TL.runG rfl rfl (pure_move rfl) rfl ?_
        first | refine TL.splitP 32 rfl (fun hg32 => ?_) (fun hg32 => ?_) | refine TL.split 32 rfl (fun hg32 => ?_) (fun hg32 => ?_)
        · try dsimp only at hg32
          refine TL.runG rfl rfl (pure_move rfl) rfl ?_
          first | refine TL.runG rfl rfl (pure_fieldAddr Ty.f65_1 rfl (.succ (.zero _)) (List.cons_ne_nil _ _)) rfl ?_ | refine TL.runG rfl rfl (pure_fieldAddr_own Ty.f65_1 rfl) rfl ?_
          first | refine TL.runG rfl rfl (pure_load1 Ty.one3 rfl) rfl ?_ | refine TL.runG rfl rfl (pure_load1_own Ty.one3 rfl (by repeat (first | exact List.Mem.head _ | apply List.Mem.tail)) (by repeat (first | exact DropR.zero _ | apply DropR.succ))) rfl ?_
          refine TL.runG rfl rfl (pure_neq rfl rfl) rfl ?_
          refine TL.runG rfl rfl (pure_pick_true rfl rfl) rfl ?_
          refine TL.run1 (pure_pick_false rfl rfl) rfl ?_
          refine TL.cutEnd (by repeat (first | exact Same.refl _ _ | refine Same.put rfl ?_)) rfl ?_
          first | (simp only [decide_eq_true_eq, Bool.false_eq_true, false_iff, true_iff, iff_true, iff_false, Bool.not_eq_true]; omega) | (simp_all; done) | (simp_all; omega) | grind
        · try dsimp only at hg32
          refine TL.passG rfl rfl rfl rfl ?_
          refine TL.passG rfl rfl rfl rfl ?_
          refine TL.passG rfl rfl rfl rfl ?_
          refine TL.passG rfl rfl rfl rfl ?_
          refine TL.runG rfl rfl (pure_pick_false rfl rfl) rfl ?_
          refine TL.run1 (pure_pick_false rfl rfl) rfl ?_
          refine TL.cutEnd (by repeat (first | exact Same.refl _ _ | refine Same.put rfl ?_)) rfl ?_
          first | (simp only [decide_eq_true_eq, Bool.false_eq_true, false_iff, true_iff, iff_true, iff_false, Bool.not_eq_true]; omega) | (simp_all; done) | (simp_all; omega) | grind
    first | refine TC.condD rfl (fun hc38 => ?_) (fun hc38 => ?_) | refine TC.condN rfl (fun hc38 => ?_) (fun hc38 => ?_) | refine TC.cond rfl (fun hc38 => ?_) (fun hc38 => ?_)
    · try dsimp only at hc38
      have hst := applyAll_take l cs i h0 (by omega)
      rw [h2] at hst
      simp only [Option.bind_some] at hst
      have hsx : applyStep x (hAt cs i) = none := by unfold applyStep; rw [if_pos hc38]
      rw [hsx] at hst
      have hno := applyAll_none l cs _ hst
      refine TC.seq ?_
      refine TC.region ?_
      refine TL.run1 (pure_assign rfl) rfl ?_
      refine TL.run1 (pure_assign rfl) rfl ?_
      refine TL.nil' ?_
      refine TC.le 4 rfl (.nil 2) ?_
      refine TC.ret ?_
      refine then_ret ?_
      refine block_ret ?_
      refine then_ret ?_
      refine loop_ret ?_
      refine block_ret ?_
      refine then_ret ?_
      exact ret2 (.inl rfl) rfl rfl (by rw [hno]; rfl)
    · try dsimp only at hc38
      refine TC.skip' ?_
      refine TC.seq ?_
      refine TC.region ?_
      first | refine TL.run1 (pure_fieldAddr Ty.f65_4 rfl (.succ (.succ (.succ (.succ (.zero _))))) (List.cons_ne_nil _ _)) rfl ?_ | refine TL.run1 (pure_fieldAddr_own Ty.f65_4 rfl) rfl ?_
      first | refine TL.run1 (pure_load1 Ty.one4 rfl) rfl ?_ | refine TL.run1 (pure_load1_own Ty.one4 rfl (by repeat (first | exact List.Mem.head _ | apply List.Mem.tail)) (by repeat (first | exact DropR.zero _ | apply DropR.succ))) rfl ?_
      refine TL.nil' ?_
      first | refine TC.condD rfl (fun hc40 => ?_) (fun hc40 => ?_) | refine TC.condN rfl (fun hc40 => ?_) (fun hc40 => ?_) | refine TC.cond rfl (fun hc40 => ?_) (fun hc40 => ?_)
      · try dsimp only at hc40
        refine TC.region ?_
        refine TL.run1 (pure_move rfl) rfl ?_
        first | refine TL.run1 (pure_fieldAddr Ty.f65_0 rfl (.zero _) (List.cons_ne_nil _ _)) rfl ?_ | refine TL.run1 (pure_fieldAddr_own Ty.f65_0 rfl) rfl ?_
        first | refine TL.run1 (pure_load1 Ty.one3 rfl) rfl ?_ | refine TL.run1 (pure_load1_own Ty.one3 rfl (by repeat (first | exact List.Mem.head _ | apply List.Mem.tail)) (by repeat (first | exact DropR.zero _ | apply DropR.succ))) rfl ?_
        first | refine TL.run1 (pure_fieldAddr Ty.f65_2 rfl (.succ (.succ (.zero _))) (List.cons_ne_nil _ _)) rfl ?_ | refine TL.run1 (pure_fieldAddr_own Ty.f65_2 rfl) rfl ?_
        first | refine TL.run1 (pure_load1 Ty.one3 rfl) rfl ?_ | refine TL.run1 (pure_load1_own Ty.one3 rfl (by repeat (first | exact List.Mem.head _ | apply List.Mem.tail)) (by repeat (first | exact DropR.zero _ | apply DropR.succ))) rfl ?_
        refine TL.run1 (pure_call (Set_spec x _ _ h3 hxl) (.cons rfl (.cons rfl (.cons rfl .nil))) Try.call35) rfl ?_
        refine TL.run1 (pure_assign rfl) rfl ?_
        refine TL.nil ?_
        refine block_normal ?_
        refine then_normal ?_
        refine TC.region ?_
        refine TL.run1 (pure_add rfl rfl (mkI64 (by omega) (by omega))) rfl ?_
        refine TL.run1 (pure_move rfl) rfl ?_
        refine TL.nil ?_
        have hst := applyAll_take l cs i h0 (by omega)
        rw [h2] at hst
        simp only [Option.bind_some] at hst
        have hsx : applyStep x (hAt cs i) = some (setP x (hAt cs i).key (hAt cs i).new) := by unfold applyStep; rw [if_neg hc38, if_pos hc40]
        rw [hsx] at hst
        obtain ⟨q1, q2⟩ := applyStep_spec h3 hsx
        refine loop_next (i + 1, (setP x (hAt cs i).key (hAt cs i).new)) ⟨by repeat (first | exact Agree.nil | refine Agree.cons rfl ?_), by repeat (first | exact List.nil_sublist _ | exact List.Sublist.refl _ | apply List.Sublist.cons_cons | apply List.Sublist.cons)⟩ ⟨by omega, by omega, hst, q1, by omega⟩ (by dsimp only; omega)
      · try dsimp only at hc40
        refine TC.region ?_
        refine TL.run1 (pure_move rfl) rfl ?_
        first | refine TL.run1 (pure_fieldAddr Ty.f65_0 rfl (.zero _) (List.cons_ne_nil _ _)) rfl ?_ | refine TL.run1 (pure_fieldAddr_own Ty.f65_0 rfl) rfl ?_
        first | refine TL.run1 (pure_load1 Ty.one3 rfl) rfl ?_ | refine TL.run1 (pure_load1_own Ty.one3 rfl (by repeat (first | exact List.Mem.head _ | apply List.Mem.tail)) (by repeat (first | exact DropR.zero _ | apply DropR.succ))) rfl ?_
        refine TL.run1 (pure_call (Clear_spec x _ h3 hxl) (.cons rfl (.cons rfl .nil)) Try.call36) rfl ?_
        refine TL.run1 (pure_assign rfl) rfl ?_
        refine TL.nil ?_
        refine block_normal ?_
        refine then_normal ?_
        refine TC.region ?_
        refine TL.run1 (pure_add rfl rfl (mkI64 (by omega) (by omega))) rfl ?_
        refine TL.run1 (pure_move rfl) rfl ?_
        refine TL.nil ?_
        have hst := applyAll_take l cs i h0 (by omega)
        rw [h2] at hst
        simp only [Option.bind_some] at hst
        have hsx : applyStep x (hAt cs i) = some (clearP x (hAt cs i).key) := by unfold applyStep; rw [if_neg hc38, if_neg (by rw [hc40]; simp)]
        rw [hsx] at hst
        obtain ⟨q1, q2⟩ := applyStep_spec h3 hsx
        refine loop_next (i + 1, (clearP x (hAt cs i).key)) ⟨by repeat (first | exact Agree.nil | refine Agree.cons rfl ?_), by repeat (first | exact List.nil_sublist _ | exact List.Sublist.refl _ | apply List.Sublist.cons_cons | apply List.Sublist.cons)⟩ ⟨by omega, by omega, hst, q1, by omega⟩ (by dsimp only; omega)
  · try dsimp only at hc16
    refine TC.exit ?_
    refine then_exit ?_
    refine loop_exit ?_
    refine block_here ?_
    refine then_normal ?_
    refine TC.seq ?_
    have hfin : applyAll l cs = some x := by rw [← h2, List.take_of_length_le (by omega)]
    refine TC.region ?_
    refine TL.run1 (pure_move rfl) rfl ?_
    refine TL.run1 (pure_assign rfl) rfl ?_
    refine TL.run1 (pure_assign rfl) rfl ?_
    refine TL.nil' ?_
    refine TC.ret ?_
    exact ret2 (.inl rfl) rfl rfl (by rw [hfin]; rfl)

def encBack (cs : List Ch) : List (List D) := (List.range cs.length).map fun (k : Nat) => [.v (.int .i64 ((cs.length : Int) - 1 - k)), .agg (encCh (hAt cs ((cs.length : Int) - 1 - k)))]
theorem encBack_len (cs : List Ch) : (encBack cs).length = cs.length := by simp [encBack]
theorem encBack_get (cs : List Ch) (k : Nat) (h : k < cs.length) : (encBack cs)[k]? = some [.v (.int .i64 ((cs.length : Int) - 1 - k)), .agg (encCh (hAt cs ((cs.length : Int) - 1 - k)))] := by simp [encBack, h]
theorem invP_take (cs : List Ch) (k : Nat) (h : k < cs.length) : (invP cs).take (k + 1) = (invP cs).take k ++ [invCh (hAt cs ((cs.length : Int) - 1 - k))] := by
  have hl : k < (invP cs).length := by rw [invP_len]; exact h
  have e : ((cs.length : Int) - 1 - k).toNat = cs.length - 1 - k := by omega
  have hg : (invP cs)[k] = invCh (hAt cs ((cs.length : Int) - 1 - k)) := by
    simp only [invP, List.getElem_map, List.getElem_reverse]
    unfold hAt
    rw [e]
    simp [show cs.length - 1 - k < cs.length by omega]
  rw [List.take_succ_eq_append_getElem hl, hg]
set_option maxRecDepth 100000 in
theorem back_seq (cs : List Ch) (hl : cs.length ≤ 1000000) : SeqD Try.prog 66 [.at_ [.sl 5 (encD cs)]] (encBack cs) := by
  refine SeqD.enter Try.func66 rfl Try.ntmps66 Try.results66 rfl (fun l J Jx w F H0 hJ0 hy => ?_)
  have hk := encD_len cs
  refine TC.seq ?_
  refine TC.region ?_
  first | refine TL.run1 (pure_load1 Ty.one61 rfl) rfl ?_ | refine TL.run1 (pure_load1_own Ty.one61 rfl (by repeat (first | exact List.Mem.head _ | apply List.Mem.tail)) (by repeat (first | exact DropR.zero _ | apply DropR.succ))) rfl ?_
  first | refine TL.run1 (pure_len Ty.sl61 rfl) rfl ?_ | refine TL.run1 (pure_len_row Ty.sl61 rfl (by repeat (first | exact List.Mem.head _ | apply List.Mem.tail))) rfl ?_ | refine TL.run1 (pure_len_nil Ty.sl61 rfl) rfl ?_
  refine TL.run1 (pure_sub rfl rfl (mkI64 (by omega) (by omega))) rfl ?_
  refine TL.run1 (pure_assign rfl) rfl ?_
  refine TL.nil' ?_
  refine TC.block ?_
  refine TC.loopX (X := Nat × Hp) (fun (n, Hc) => [(0, .v (.func (.yield l) #[] #[])), (1, .at_ [.sl 5 (encD cs)]), (3, .v (.int .i64 ((cs.length : Int) - 1 - n)))]) (fun (n, Hc) => Hc) (fun (n, Hc) => (n ≤ cs.length) ∧ (J n Hc)) (fun (n, Hc) => cs.length - n) (0, H0) ⟨by dsimp only; (try rw [encD_len]); rw [show ((cs.length : Int) - 1 - ((0 : Nat) : Int)) = (cs.length : Int) - 1 by omega]; repeat (first | exact Agree.nil | refine Agree.cons rfl ?_), by skip; repeat (first | exact List.nil_sublist _ | exact List.Sublist.refl _ | apply List.Sublist.cons_cons | apply List.Sublist.cons)⟩ ?_ ?_
  · skip
    exact ⟨Nat.zero_le _, hJ0⟩
  rintro ⟨n, Hc⟩
  rintro ⟨hn, hJ⟩
  show TC _ _ _ (Env.of [(0, .v (.func (.yield l) #[] #[])), (1, .at_ [.sl 5 (encD cs)]), (3, .v (.int .i64 ((cs.length : Int) - 1 - n)))]) Hc
  refine TC.seq ?_
  refine TC.seq ?_
  refine TC.region ?_
  refine TL.run1 (pure_move rfl) rfl ?_
  refine TL.run1 (pure_geq rfl rfl) rfl ?_
  refine TL.nil' ?_
  first | refine TC.condD rfl (fun hc8 => ?_) (fun hc8 => ?_) | refine TC.condN rfl (fun hc8 => ?_) (fun hc8 => ?_) | refine TC.cond rfl (fun hc8 => ?_) (fun hc8 => ?_)
  · try dsimp only at hc8
    refine TC.skip' ?_
    refine TC.seq ?_
    refine TC.block ?_
    refine TC.seq ?_
    have hrow := encD_get cs ((cs.length : Int) - 1 - n) (by omega) (by omega)
    have hxn := encBack_get cs n (by omega)
    refine TC.region ?_
    refine TL.run1 (pure_move rfl) rfl ?_
    refine TL.run1 (pure_move rfl) rfl ?_
    first | refine TL.run1 (pure_load1 Ty.one61 rfl) rfl ?_ | refine TL.run1 (pure_load1_own Ty.one61 rfl (by repeat (first | exact List.Mem.head _ | apply List.Mem.tail)) (by repeat (first | exact DropR.zero _ | apply DropR.succ))) rfl ?_
    refine TL.run1 (pure_move rfl) rfl ?_
    refine TL.run1 (pure_indexAddr Ty.sl61 rfl rfl (by omega) (by assumption) (List.cons_ne_nil _ _)) rfl ?_
    first | refine TL.run1 (pure_load Ty.agg65 rfl (.succ (.succ (.succ (.succ (.succ (.zero _))))))) rfl ?_ | refine TL.run1 (pure_load_own Ty.agg65 rfl (by repeat (first | exact List.Mem.head _ | apply List.Mem.tail)) (by repeat (first | exact DropR.zero _ | apply DropR.succ)) (.succ (.succ (.succ (.succ (.succ (.zero _))))))) rfl ?_
    refine TL.yield rfl (SplitR.all _) rfl (hy n _ Hc hxn hJ) (.cons rfl (.cons rfl .nil)) (by intro t ht; cases ht; exact (by decide : (17 : Nat) < 19)) (fun bb H1 hR => ?_)
    rw [List.append_nil]
    refine TL.run1 (pure_not rfl) rfl ?_
    refine TL.nil' ?_
    first | refine TC.condD rfl (fun hc18 => ?_) (fun hc18 => ?_) | refine TC.condN rfl (fun hc18 => ?_) (fun hc18 => ?_) | refine TC.cond rfl (fun hc18 => ?_) (fun hc18 => ?_)
    · try dsimp only at hc18
      have hcy : bb = false := by simpa using hc18
      refine TC.ret ?_
      refine block_ret ?_
      refine then_ret ?_
      refine loop_ret ?_
      refine block_ret ?_
      exact ⟨.inl rfl, [], .nil, H1, List.Sublist.refl _, .inr ⟨n + 1, by (have h := hR; simp only [hcy, Bool.false_eq_true, if_false] at h; exact h)⟩⟩
    · try dsimp only at hc18
      have hcy : bb = true := by simpa using hc18
      refine TC.skip ?_
      refine block_normal ?_
      refine then_normal ?_
      refine TC.region ?_
      refine TL.run1 (pure_move rfl) rfl ?_
      refine TL.run1 (pure_sub rfl rfl (mkI64 (by omega) (by omega))) rfl ?_
      refine TL.run1 (pure_assign rfl) rfl ?_
      refine TL.nil ?_
      refine loop_next (n + 1, H1) ⟨by (dsimp only; rw [show ((cs.length : Int) - 1 - ((n + 1 : Nat) : Int)) = (cs.length : Int) - 1 - n - 1 by omega]; repeat (first | exact Agree.nil | refine Agree.cons rfl ?_)), by repeat (first | exact List.nil_sublist _ | exact List.Sublist.refl _ | apply List.Sublist.cons_cons | apply List.Sublist.cons)⟩ ⟨by omega, by (have h := hR; simp only [hcy, if_true] at h; exact h)⟩ (by dsimp only; omega)
  · try dsimp only at hc8
    refine TC.exit ?_
    refine then_exit ?_
    refine loop_exit ?_
    refine block_here ?_
    have hend : n = (encBack cs).length := by rw [encBack_len]; omega
    exact ⟨.inr rfl, [], .nil, Hc, List.Sublist.refl _, .inl (hend ▸ hJ)⟩
set_option maxRecDepth 100000 in
theorem back_spec (cs : List Ch) : Fun Try.prog 55 [.sl 5 (encD cs)] (.fn 66 [.at_ [.sl 5 (encD cs)]]) := by
  refine Fun.enterF (n := 4) (rs := [.tmp 2]) Try.func55 rfl Try.ntmps55 Try.results55 rfl (fun w F => ?_)
  refine TC.seq ?_
  refine TC.region ?_
  refine TL.box rfl (.one rfl) rfl (fun g1 => ?_)
  refine TL.run1 (pure_assign rfl) rfl ?_
  refine TL.nil' ?_
  refine TC.seq ?_
  refine TC.region ?_
  refine TL.run1 (pure_makeFunc (.cons rfl .nil)) rfl ?_
  refine TL.run1 (pure_assign rfl) rfl ?_
  refine TL.nil' ?_
  refine TC.ret ?_
  exact retF1 (.inl rfl) rfl (.fnL (.cons (.boxS (by repeat (first | exact List.Mem.head _ | apply List.Mem.tail)) (List.cons_ne_nil _ _)) .nil))
set_option maxRecDepth 100000 in
theorem Inverse_spec (cs : List Ch) (hl : cs.length ≤ 1000000) : Fun Try.prog 43 [.sl 5 (encD cs)] (.sl 5 (encD (invP cs))) := by
  refine Fun.enterF (n := 25) (rs := [.tmp 2]) Try.func43 rfl Try.ntmps43 Try.results43 rfl (fun w F => ?_)
  refine TC.seq ?_
  refine TC.region ?_
  refine TL.run1 (pure_assign rfl) rfl ?_
  refine TL.nil' ?_
  refine TC.seq ?_
  refine TC.region ?_
  refine TL.alloc Ty.zero61 rfl (fun g3 => ?_)
  refine TL.nil' ?_
  refine TC.seq ?_
  refine TC.seq ?_
  refine TC.nilrow 65 5 ?_
  refine TC.region ?_
  refine TL.run1 (pure_move rfl) rfl ?_
  refine TL.run1 (pure_call (back_spec cs) (.cons rfl .nil) Try.call55) rfl ?_
  refine TL.nil' ?_
  refine TC.block ?_
  refine TC.rangeFunc (caps := [.at_ [.sl 5 (encD cs)]]) (xs := (encBack cs)) rfl rfl Try.call66 (back_seq cs hl) (fun k H => ∃ v, List.Sublist [Blk.row v 65 5 (encD ((invP cs).take k)), .box g3 61 [.v v]] H) (fun _ _ => False) ⟨_, List.Sublist.refl _⟩ ?_ (by rfl) ?_ ?_ ?_ ?_
  · skip
    intro x hx
    obtain ⟨k, _, rfl⟩ := List.mem_map.1 hx
    rfl
  · skip
    rintro k x Hc w F S l hx ⟨v, hsub⟩
    refine TC.forget (fun _ _ h => h) hsub ?_
    have hkl : k < cs.length := by have := (List.getElem?_eq_some_iff.1 hx).1; rwa [encBack_len] at this
    rw [encBack_get cs k hkl] at hx
    obtain rfl := Option.some.inj hx
    have hkm := encD_len ((invP cs).take k)
    have htm : ((invP cs).take k).length ≤ k := by rw [List.length_take]; omega
    refine TC.region ?_
    refine TL.alloc Ty.zero65 rfl (fun g5 => ?_)
    refine TL.store rfl rfl (.agg _) Try.sizeOf65 rfl (by repeat (first | exact UpdR.here _ | apply UpdR.there)) (by repeat (first | exact PutR.nil _ | apply PutR.here | apply PutR.skip)) ?_
    refine TL.nil ?_
    refine ⟨rfl, fun w F S => ?_⟩
    refine TC.block ?_
    refine TC.region ?_
    first | refine TL.run1 (pure_load1 Ty.one61 rfl) rfl ?_ | refine TL.run1 (pure_load1_own Ty.one61 rfl (by repeat (first | exact List.Mem.head _ | apply List.Mem.tail)) (by repeat (first | exact DropR.zero _ | apply DropR.succ))) rfl ?_
    first | refine TL.run1 (pure_fieldAddr Ty.f65_0 rfl (.zero _) (List.cons_ne_nil _ _)) rfl ?_ | refine TL.run1 (pure_fieldAddr_own Ty.f65_0 rfl) rfl ?_
    first | refine TL.run1 (pure_load1 Ty.one3 rfl) rfl ?_ | refine TL.run1 (pure_load1_own Ty.one3 rfl (by repeat (first | exact List.Mem.head _ | apply List.Mem.tail)) (by repeat (first | exact DropR.zero _ | apply DropR.succ))) rfl ?_
    first | refine TL.run1 (pure_fieldAddr Ty.f65_2 rfl (.succ (.succ (.zero _))) (List.cons_ne_nil _ _)) rfl ?_ | refine TL.run1 (pure_fieldAddr_own Ty.f65_2 rfl) rfl ?_
    first | refine TL.run1 (pure_load1 Ty.one3 rfl) rfl ?_ | refine TL.run1 (pure_load1_own Ty.one3 rfl (by repeat (first | exact List.Mem.head _ | apply List.Mem.tail)) (by repeat (first | exact DropR.zero _ | apply DropR.succ))) rfl ?_
    first | refine TL.run1 (pure_fieldAddr Ty.f65_1 rfl (.succ (.zero _)) (List.cons_ne_nil _ _)) rfl ?_ | refine TL.run1 (pure_fieldAddr_own Ty.f65_1 rfl) rfl ?_
    first | refine TL.run1 (pure_load1 Ty.one3 rfl) rfl ?_ | refine TL.run1 (pure_load1_own Ty.one3 rfl (by repeat (first | exact List.Mem.head _ | apply List.Mem.tail)) (by repeat (first | exact DropR.zero _ | apply DropR.succ))) rfl ?_
    first | refine TL.run1 (pure_fieldAddr Ty.f65_4 rfl (.succ (.succ (.succ (.succ (.zero _))))) (List.cons_ne_nil _ _)) rfl ?_ | refine TL.run1 (pure_fieldAddr_own Ty.f65_4 rfl) rfl ?_
    first | refine TL.run1 (pure_load1 Ty.one4 rfl) rfl ?_ | refine TL.run1 (pure_load1_own Ty.one4 rfl (by repeat (first | exact List.Mem.head _ | apply List.Mem.tail)) (by repeat (first | exact DropR.zero _ | apply DropR.succ))) rfl ?_
    first | refine TL.run1 (pure_fieldAddr Ty.f65_3 rfl (.succ (.succ (.succ (.zero _)))) (List.cons_ne_nil _ _)) rfl ?_ | refine TL.run1 (pure_fieldAddr_own Ty.f65_3 rfl) rfl ?_
    first | refine TL.run1 (pure_load1 Ty.one4 rfl) rfl ?_ | refine TL.run1 (pure_load1_own Ty.one4 rfl (by repeat (first | exact List.Mem.head _ | apply List.Mem.tail)) (by repeat (first | exact DropR.zero _ | apply DropR.succ))) rfl ?_
    refine TL.run1 (pure_build Ty.pl65 Ty.zero65 (.cons rfl rfl (.one rfl) rfl (.here (.nil _)) (.cons rfl rfl (.one rfl) rfl (.skip (.here (.nil _))) (.cons rfl rfl (.one rfl) rfl (.skip (.skip (.here (.nil _)))) (.cons rfl rfl (.one rfl) rfl (.skip (.skip (.skip (.here (.nil _))))) (.cons rfl rfl (.one rfl) rfl (.skip (.skip (.skip (.skip (.here (.nil _)))))) (.nil _))))))) rfl ?_
    refine TL.run1 (pure_buildSlice (xs := [.tmp 21]) Ty.app61 (by decide) rfl rfl (.cons rfl (.agg _) rfl .nil)) rfl ?_
    refine TL.append Ty.app61 rfl rfl (by intro _; repeat (first | exact UpdR.here _ | apply UpdR.there)) (by simp only [List.length_append, List.length_cons, List.length_nil]; omega) (by simp only [List.length_append, List.length_cons, List.length_nil]; omega) rfl (fun v23 hv23 => ?_)
    refine TL.store rfl rfl (.one (by first | rfl | assumption)) Try.sizeOf61 rfl (by repeat (first | exact UpdR.here _ | apply UpdR.there)) (by repeat (first | exact PutR.nil _ | apply PutR.here | apply PutR.skip)) ?_
    refine TL.nil ?_
    refine block_normal ?_
    exact ⟨_, by rw [invP_take cs k hkl, encD_snoc]; exact .cons _ (List.Sublist.refl _)⟩
  · skip
    rintro Hc ⟨v, hsub⟩
    refine block_normal ?_
    refine then_normal ?_
    refine TC.seq ?_
    refine TC.forget (fun _ _ h => h) hsub ?_
    refine TC.region ?_
    first | refine TL.run1 (pure_load1 Ty.one61 rfl) rfl ?_ | refine TL.run1 (pure_load1_own Ty.one61 rfl (by repeat (first | exact List.Mem.head _ | apply List.Mem.tail)) (by repeat (first | exact DropR.zero _ | apply DropR.succ))) rfl ?_
    refine TL.run1 (pure_assign rfl) rfl ?_
    refine TL.nil' ?_
    refine TC.ret ?_
    exact retF_row rfl (by repeat (first | exact List.Mem.head _ | apply List.Mem.tail)) (by decide) (encD_each _) (by rw [encBack_len, List.take_of_length_le (by rw [invP_len]; omega)])
  · skip
    first | exact fun _ h => h.elim | exact fun _ _ h => h.elim
  · skip
    first | exact fun _ h => h.elim | exact fun _ _ h => h.elim
set_option maxRecDepth 100000 in
theorem Ordered_spec (l : List (Int × Int)) (hinc : Inc (keysP l)) (hl : l.length ≤ 1000000) : Fun Try.prog 39 [.sl 2 (encP l)] (.v (.bool true)) := by
  refine Fun.enter (n := 22) (rs := [.tmp 2]) Try.func39 rfl Try.ntmps39 Try.results39 rfl (fun w F => ?_)
  refine TC.seq ?_
  refine TC.region ?_
  refine TL.run1 (pure_assign rfl) rfl ?_
  refine TL.nil' ?_
  refine TC.seq ?_
  refine TC.seq ?_
  refine TC.region ?_
  refine TL.run1 (pure_assign rfl) rfl ?_
  refine TL.nil' ?_
  refine TC.block ?_
  refine TC.loopX (X := Int) (fun i => [(0, .sl 2 (encP l)), (3, .v (.int .i64 i))]) (fun i => []) (fun i => (1 ≤ i) ∧ (i ≤ max 1 l.length)) (fun i => (l.length - i).toNat) (1) ⟨by skip; repeat (first | exact Agree.nil | refine Agree.cons rfl ?_), by skip; repeat (first | exact List.nil_sublist _ | exact List.Sublist.refl _ | apply List.Sublist.cons_cons | apply List.Sublist.cons)⟩ ?_ ?_
  · skip
    exact ⟨by omega, by omega⟩
  intro i
  rintro ⟨h0, h1⟩
  show TC _ _ _ (Env.of [(0, .sl 2 (encP l)), (3, .v (.int .i64 i))]) []
  have hk := encP_len l
  refine TC.seq ?_
  refine TC.seq ?_
  refine TC.region ?_
  refine TL.run1 (pure_move rfl) rfl ?_
  refine TL.run1 (pure_move rfl) rfl ?_
  first | refine TL.run1 (pure_len Ty.sl31 rfl) rfl ?_ | refine TL.run1 (pure_len_row Ty.sl31 rfl (by repeat (first | exact List.Mem.head _ | apply List.Mem.tail))) rfl ?_ | refine TL.run1 (pure_len_nil Ty.sl31 rfl) rfl ?_
  refine TL.run1 (pure_lss rfl rfl) rfl ?_
  refine TL.nil' ?_
  first | refine TC.condD rfl (fun hc7 => ?_) (fun hc7 => ?_) | refine TC.condN rfl (fun hc7 => ?_) (fun hc7 => ?_) | refine TC.cond rfl (fun hc7 => ?_) (fun hc7 => ?_)
  · try dsimp only at hc7
    refine TC.skip' ?_
    refine TC.seq ?_
    refine TC.block ?_
    refine TC.seq ?_
    have hrow := encP_get l i (by omega) (by omega)
    have hrow2 := encP_get l (i - 1) (by omega) (by omega)
    have hlt := hinc.lt (i := (i - 1).toNat) (j := i.toNat) (by omega) (by rw [keysP_len]; omega)
    rw [kAt_keysP _ _ (by omega), kAt_keysP _ _ (by omega), show (((i - 1).toNat : Nat) : Int) = i - 1 by omega, show ((i.toNat : Nat) : Int) = i by omega] at hlt
    refine TC.draw Ty.follows (by kernel_rfl) ?_
    refine TD.run1 (pure_move rfl) rfl ?_
    refine TD.run1 (pure_move rfl) rfl ?_
    refine TD.run1 (pure_indexAddr Ty.sl31 rfl rfl (by omega) (by assumption) (List.cons_ne_nil _ _)) rfl ?_
    first | refine TD.run1 (pure_fieldAddr Ty.f59_0 rfl (.zero _) (List.cons_ne_nil _ _)) rfl ?_ | refine TD.run1 (pure_fieldAddr_own Ty.f59_0 rfl) rfl ?_
    first | refine TD.run1 (pure_load1 Ty.one3 rfl) rfl ?_ | refine TD.run1 (pure_load1_own Ty.one3 rfl (by repeat (first | exact List.Mem.head _ | apply List.Mem.tail)) (by repeat (first | exact DropR.zero _ | apply DropR.succ))) rfl ?_
    refine TD.run1 (pure_move rfl) rfl ?_
    refine TD.run1 (pure_move rfl) rfl ?_
    refine TD.run1 (pure_sub rfl rfl (mkI64 (by omega) (by omega))) rfl ?_
    refine TD.run1 (pure_indexAddr Ty.sl31 rfl rfl (by omega) (by assumption) (List.cons_ne_nil _ _)) rfl ?_
    first | refine TD.run1 (pure_fieldAddr Ty.f59_0 rfl (.zero _) (List.cons_ne_nil _ _)) rfl ?_ | refine TD.run1 (pure_fieldAddr_own Ty.f59_0 rfl) rfl ?_
    first | refine TD.run1 (pure_load1 Ty.one3 rfl) rfl ?_ | refine TD.run1 (pure_load1_own Ty.one3 rfl (by repeat (first | exact List.Mem.head _ | apply List.Mem.tail)) (by repeat (first | exact DropR.zero _ | apply DropR.succ))) rfl ?_
    refine TD.run1 (pure_leq rfl rfl) rfl ?_
    refine TD.nil' ?_
    first | refine TC.condD rfl (fun hc21 => ?_) (fun hc21 => ?_) | refine TC.condN rfl (fun hc21 => ?_) (fun hc21 => ?_) | refine TC.cond rfl (fun hc21 => ?_) (fun hc21 => ?_)
    · try dsimp only at hc21
      exfalso; omega
    · try dsimp only at hc21
      refine TC.skip ?_
      refine block_normal ?_
      refine then_normal ?_
      refine TC.region ?_
      refine TL.run1 (pure_move rfl) rfl ?_
      refine TL.run1 (pure_add rfl rfl (mkI64 (by omega) (by omega))) rfl ?_
      refine TL.run1 (pure_assign rfl) rfl ?_
      refine TL.nil ?_
      refine loop_next (i + 1) ⟨by repeat (first | exact Agree.nil | refine Agree.cons rfl ?_), by repeat (first | exact List.nil_sublist _ | exact List.Sublist.refl _ | apply List.Sublist.cons_cons | apply List.Sublist.cons)⟩ ⟨by omega, by omega⟩ (by omega)
  · try dsimp only at hc7
    refine TC.exit ?_
    refine then_exit ?_
    refine loop_exit ?_
    refine block_here ?_
    refine then_normal ?_
    refine TC.seq ?_
    refine TC.region ?_
    refine TL.run1 (pure_assign rfl) rfl ?_
    refine TL.nil' ?_
    refine TC.ret ?_
    exact ret_bool rfl rfl
end Go.Ob
