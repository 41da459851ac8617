import Derived.Test.YtkedjbommcfhiaaDoorN4
set_option linter.unusedVariables false
set_option linter.unusedSimpArgs false
namespace Go.Ob
open Go.Proofs

theorem encB_cut (l : List Int) : ((encB l).take (min (encB l).length 300)).drop 0 = encB (l.take 300) := by
  rw [List.drop_zero]
  unfold encB
  rw [List.map_take, List.length_map]
  rcases Nat.le_total l.length 300 with h | h
  · rw [Nat.min_eq_left h, List.take_of_length_le (by simp), List.take_of_length_le (by simpa using h)]
  · rw [Nat.min_eq_right h]
theorem line_spec (m : List Int) (hm : ∀ x ∈ m, 0 ≤ x ∧ x < 128) (hl : m.length ≤ 300) : Fun Tryd.prog 21 [.v (.string (strOfNums m))] (.tup [.v (.int .i64 (wN m m.length : Nat)), .v (.int .i64 0)]) := by
  have h := Count_spec (strOfNums m) (by rw [strOfNums_size]; omega)
  obtain ⟨h1, h2⟩ := lines_count m hm
  rw [h1, h2] at h
  exact h
set_option maxRecDepth 100000 in
theorem GraphemeLines_spec (l : List Int) (hb : ∀ x ∈ l, 0 ≤ x ∧ x < 256) : Fun Tryd.prog 8 [.sl 1 (encB l)] (.v (.bool true)) := by
  refine Fun.enter (n := 62) (rs := [.tmp 2]) Tryd.func8 rfl Tryd.ntmps8 Tryd.results8 rfl (fun w F => ?_)
  refine TC.seq ?_
  refine TC.region ?_
  refine TL.run1 (pure_assign rfl) rfl ?_
  refine TL.nil' ?_
  refine TC.seq ?_
  refine TC.region ?_
  refine TL.run1 (pure_move rfl) rfl ?_
  refine TL.run1 (pure_move rfl) rfl ?_
  first | refine TL.run1 (pure_len Ty.sl45 rfl) rfl ?_ | refine TL.run1 (pure_len_row Ty.sl45 rfl (by repeat (first | exact List.Mem.head _ | apply List.Mem.tail))) rfl ?_ | refine TL.run1 (pure_len_nil Ty.sl45 rfl) rfl ?_
  refine TL.run1 (pure_min rfl rfl) rfl ?_
  refine TL.run1 (pure_slice (l := 0) (h := min (encB l).length 300) Ty.sl45 rfl rfl (by rw [show ((min (encB l).length 300 : Nat) : Int) = min ((encB l).length : Int) 300 by omega]; rfl) (by omega) (by omega)) rfl ?_
  refine TL.run1 (pure_assign rfl) rfl ?_
  refine TL.nil' ?_
  refine TC.seq ?_
  rw [encB_cut]
  obtain ⟨c, hcd⟩ : ∃ c, l.take 300 = c := ⟨_, rfl⟩
  rw [hcd]
  have hcl : c.length ≤ 300 := by rw [← hcd, List.length_take]; omega
  have hcm : ∀ x ∈ c, 0 ≤ x ∧ x < 256 := fun x hx => hb x (List.mem_of_mem_take (hcd ▸ hx))
  obtain ⟨m, hmd⟩ : ∃ m, c.map (· % 128) = m := ⟨_, rfl⟩
  have hml : m.length = c.length := by rw [← hmd, List.length_map]
  have hmm : ∀ x ∈ m, 0 ≤ x ∧ x < 128 := by (rw [← hmd]; intro x hx; obtain ⟨y, _, rfl⟩ := List.mem_map.1 hx; (try dsimp only); omega)
  have hkc := encB_len c
  refine TC.region ?_
  refine TL.run1 (pure_assign rfl) rfl ?_
  refine TL.run1 (pure_assign rfl) rfl ?_
  refine TL.nil' ?_
  refine TC.seq ?_
  refine TC.seq ?_
  refine TC.region ?_
  refine TL.run1 (pure_assign rfl) rfl ?_
  refine TL.nil' ?_
  refine TC.block ?_
  refine TC.loopX (X := Nat) (fun i => [(0, .sl 1 (encB c)), (3, .v (.string (strOfNums (m.take i)))), (4, .v (.int .i64 (wN m i : Nat))), (5, .v (.int .i64 i))]) (fun i => []) (fun i => (i ≤ c.length)) (fun i => c.length - i) (0) ⟨by skip; repeat (first | exact Agree.nil | refine Agree.cons rfl ?_), by skip; repeat (first | exact List.nil_sublist _ | exact List.Sublist.refl _ | apply List.Sublist.cons_cons | apply List.Sublist.cons)⟩ ?_ ?_
  · skip
    exact Nat.zero_le _
  intro i
  intro h1
  show TC _ _ _ (Env.of [(0, .sl 1 (encB c)), (3, .v (.string (strOfNums (m.take i)))), (4, .v (.int .i64 (wN m i : Nat))), (5, .v (.int .i64 i))]) []
  refine TC.seq ?_
  refine TC.seq ?_
  refine TC.region ?_
  refine TL.run1 (pure_move rfl) rfl ?_
  refine TL.run1 (pure_move rfl) rfl ?_
  first | refine TL.run1 (pure_len Ty.sl45 rfl) rfl ?_ | refine TL.run1 (pure_len_row Ty.sl45 rfl (by repeat (first | exact List.Mem.head _ | apply List.Mem.tail))) rfl ?_ | refine TL.run1 (pure_len_nil Ty.sl45 rfl) rfl ?_
  refine TL.run1 (pure_lss rfl rfl) rfl ?_
  refine TL.nil' ?_
  first | refine TC.condD rfl (fun hc17 => ?_) (fun hc17 => ?_) | refine TC.condN rfl (fun hc17 => ?_) (fun hc17 => ?_) | refine TC.cond rfl (fun hc17 => ?_) (fun hc17 => ?_)
  · try dsimp only at hc17
    refine TC.skip' ?_
    refine TC.seq ?_
    refine TC.block ?_
    refine TC.seq ?_
    have hrow : (encB c)[((i : Nat) : Int).toNat]? = some [.v (.int .u8 (iAt c i))] := encB_get c i (by omega) (by omega)
    have hb1 := hcm _ (iAt_mem c i (by omega))
    have hmi : iAt c i % 128 = iAt m i := by rw [← hmd, iAt_mapN c _ i (by omega)]
    refine TC.region ?_
    refine TL.run1 (pure_move rfl) rfl ?_
    refine TL.run1 (pure_move rfl) rfl ?_
    refine TL.run1 (pure_indexAddr Ty.sl45 rfl rfl (by omega) hrow (List.cons_ne_nil _ _)) rfl ?_
    first | refine TL.run1 (pure_load1 Ty.one5 rfl) rfl ?_ | refine TL.run1 (pure_load1_own Ty.one5 rfl (by repeat (first | exact List.Mem.head _ | apply List.Mem.tail)) (by repeat (first | exact DropR.zero _ | apply DropR.succ))) rfl ?_
    refine TL.run1 (pure_remK rfl rfl (by omega) (by omega)) rfl ?_
    refine TL.run1 (pure_assign rfl) rfl ?_
    refine TL.nil' ?_
    refine TC.seq ?_
    rw [hmi]
    refine TC.regionCut [25, 26, 27, 28, 29, 30, 31, 32, 33, 34, 35, 36, 37, 38, 39] 39 (iAt m i ≠ 10 ∨ (i : Int) = 0 ∨ iAt c ((i : Int) - 1) % 128 ≠ 13) ?_ ?_
    · skip
      refine TL.run1 (pure_move rfl) rfl ?_
      refine TL.run1 (pure_neq rfl rfl) rfl ?_
      refine TL.run1 (pure_move rfl) rfl ?_
      first | refine TL.splitP 27 rfl (fun hg27 => ?_) (fun hg27 => ?_) | refine TL.split 27 rfl (fun hg27 => ?_) (fun hg27 => ?_)
      · try dsimp only at hg27
        refine TL.passG rfl rfl rfl rfl ?_
        refine TL.passG rfl rfl rfl rfl ?_
        refine TL.run1 (pure_pick_true rfl rfl) rfl ?_
        refine TL.run1 (pure_move rfl) rfl ?_
        refine TL.passG rfl rfl rfl rfl ?_
        refine TL.passG rfl rfl rfl rfl ?_
        refine TL.passG rfl rfl rfl rfl ?_
        refine TL.passG rfl rfl rfl rfl ?_
        refine TL.passG rfl rfl rfl rfl ?_
        refine TL.passG rfl rfl rfl rfl ?_
        refine TL.passG rfl rfl rfl rfl ?_
        refine TL.run1 (pure_pick_true rfl rfl) rfl ?_
        refine TL.cutEnd (by repeat (first | exact Same.refl _ _ | refine Same.put rfl ?_)) rfl ?_
        first | (simp only [decide_eq_true_eq, Bool.false_eq_true, false_iff, true_iff, iff_true, iff_false, Bool.not_eq_true]; omega) | (simp_all; done) | (simp_all; omega) | grind
      · try dsimp only at hg27
        refine TL.runG rfl rfl (pure_move rfl) rfl ?_
        refine TL.runG rfl rfl (pure_eql rfl rfl) rfl ?_
        refine TL.run1 (pure_pick_false rfl rfl) rfl ?_
        refine TL.run1 (pure_move rfl) rfl ?_
        first | refine TL.splitP 31 rfl (fun hg31 => ?_) (fun hg31 => ?_) | refine TL.split 31 rfl (fun hg31 => ?_) (fun hg31 => ?_)
        · try dsimp only at hg31
          refine TL.passG rfl rfl rfl rfl ?_
          refine TL.passG rfl rfl rfl rfl ?_
          refine TL.passG rfl rfl rfl rfl ?_
          refine TL.passG rfl rfl rfl rfl ?_
          refine TL.passG rfl rfl rfl rfl ?_
          refine TL.passG rfl rfl rfl rfl ?_
          refine TL.passG rfl rfl rfl rfl ?_
          refine TL.run1 (pure_pick_true rfl rfl) rfl ?_
          refine TL.cutEnd (by repeat (first | exact Same.refl _ _ | refine Same.put rfl ?_)) rfl ?_
          first | (simp only [decide_eq_true_eq, Bool.false_eq_true, false_iff, true_iff, iff_true, iff_false, Bool.not_eq_true]; omega) | (simp_all; done) | (simp_all; omega) | grind
        · try dsimp only at hg31
          have hi0 : ¬ (i : Int) = 0 := by (first | exact hg31 | simpa using hg31)
          have hrow2 : (encB c)[((i : Int) - 1).toNat]? = some [.v (.int .u8 (iAt c ((i : Int) - 1)))] := encB_get c ((i : Int) - 1) (by omega) (by omega)
          have hb2 : 0 ≤ iAt c ((i : Int) - 1) := by (rw [show (i : Int) - 1 = ((i - 1 : Nat) : Int) by omega]; exact (hcm _ (iAt_mem c (i - 1) (by omega))).1)
          refine TL.runG rfl rfl (pure_move rfl) rfl ?_
          refine TL.runG rfl rfl (pure_move rfl) rfl ?_
          refine TL.runG rfl rfl (pure_sub rfl rfl (mkI64 (by omega) (by omega))) rfl ?_
          refine TL.runG rfl rfl (pure_indexAddr Ty.sl45 rfl rfl (by omega) hrow2 (List.cons_ne_nil _ _)) rfl ?_
          first | refine TL.runG rfl rfl (pure_load1 Ty.one5 rfl) rfl ?_ | refine TL.runG rfl rfl (pure_load1_own Ty.one5 rfl (by repeat (first | exact List.Mem.head _ | apply List.Mem.tail)) (by repeat (first | exact DropR.zero _ | apply DropR.succ))) rfl ?_
          refine TL.runG rfl rfl (pure_remK rfl rfl (by omega) (by omega)) rfl ?_
          refine TL.runG rfl rfl (pure_neq rfl rfl) rfl ?_
          refine TL.run1 (pure_pick_false rfl rfl) rfl ?_
          refine TL.cutEnd (by repeat (first | exact Same.refl _ _ | refine Same.put rfl ?_)) rfl ?_
          first | (simp only [decide_eq_true_eq, Bool.false_eq_true, false_iff, true_iff, iff_true, iff_false, Bool.not_eq_true]; omega) | (simp_all; done) | (simp_all; omega) | grind
    first | refine TC.condD rfl (fun hc39 => ?_) (fun hc39 => ?_) | refine TC.condN rfl (fun hc39 => ?_) (fun hc39 => ?_) | refine TC.cond rfl (fun hc39 => ?_) (fun hc39 => ?_)
    · try dsimp only at hc39
      have hp39 : iAt m i ≠ 10 ∨ i = 0 ∨ iAt m ((i : Int) - 1) ≠ 13 := by (rcases hc39 with h | h | h; exact .inl h; exact .inr (.inl (by omega)); rcases Nat.eq_zero_or_pos i with h0 | h0; exact .inr (.inl h0); refine .inr (.inr ?_); rw [← hmd, show (i : Int) - 1 = ((i - 1 : Nat) : Int) by omega, iAt_mapN c _ (i - 1) (by omega)]; rw [show (i : Int) - 1 = ((i - 1 : Nat) : Int) by omega] at h; exact h)
      have hwl := wN_le m i
      refine TC.region ?_
      refine TL.run1 (pure_move rfl) rfl ?_
      refine TL.run1 (pure_add rfl rfl (mkI64 (by omega) (by omega))) rfl ?_
      refine TL.run1 (pure_assign rfl) rfl ?_
      refine TL.nil' ?_
      refine TC.region ?_
      refine TL.run1 (pure_move rfl) rfl ?_
      refine TL.run1 (pure_move rfl) rfl ?_
      refine TL.run1 (pure_buildSlice (xs := [.tmp 43]) Ty.app45 (by decide) rfl rfl (.cons rfl (.one rfl) rfl .nil)) rfl ?_
      refine TL.run1 (pure_conv_bytes (ns := [iAt m i]) Tryd.underlying45 Tryd.underlying5 Tryd.underlying9 rfl) rfl ?_
      refine TL.run1 (pure_add_string (a := strOfNums (m.take i)) (b := strOfNums [iAt m i]) rfl rfl (by simp only [strOfNums_size, List.length_take, List.length_singleton]; omega)) rfl ?_
      refine TL.run1 (pure_assign rfl) rfl ?_
      refine TL.nil ?_
      refine block_normal ?_
      refine then_normal ?_
      refine TC.region ?_
      refine TL.run1 (pure_move rfl) rfl ?_
      refine TL.run1 (pure_add rfl rfl (mkI64 (by omega) (by omega))) rfl ?_
      refine TL.run1 (pure_assign rfl) rfl ?_
      refine TL.nil ?_
      have hw : wN m (i + 1) = wN m i + 1 := by (rw [wN, if_neg (fun h => by rcases hp39 with e | e | e; exact e h.1; exact h.2.1 e; exact e h.2.2)])
      have htk : m.take (i + 1) = m.take i ++ [iAt m i] := by (rw [List.take_succ_eq_append_getElem (by omega)]; unfold iAt; simp [show i < m.length by omega])
      refine loop_next (i + 1) ⟨by ((try dsimp only); rw [htk, strOfNums_append, hw, show ((wN m i + 1 : Nat) : Int) = (wN m i : Int) + 1 by omega, show (((i + 1 : Nat)) : Int) = (i : Int) + 1 by omega]; repeat (first | exact Agree.nil | refine Agree.cons rfl ?_)), by repeat (first | exact List.nil_sublist _ | exact List.Sublist.refl _ | apply List.Sublist.cons_cons | apply List.Sublist.cons)⟩ (show i + 1 ≤ c.length by omega) (by omega)
    · try dsimp only at hc39
      have hp39 : iAt m i = 10 ∧ i ≠ 0 ∧ iAt m ((i : Int) - 1) = 13 := by (have h0 : iAt m i = 10 := Decidable.not_not.1 fun h => hc39 (.inl h); have h1 : ¬ (i : Int) = 0 := fun h => hc39 (.inr (.inl h)); have h2 : iAt c ((i : Int) - 1) % 128 = 13 := Decidable.not_not.1 fun h => hc39 (.inr (.inr h)); refine ⟨h0, by omega, ?_⟩; rw [← hmd, show (i : Int) - 1 = ((i - 1 : Nat) : Int) by omega, iAt_mapN c _ (i - 1) (by omega)]; rw [show (i : Int) - 1 = ((i - 1 : Nat) : Int) by omega] at h2; exact h2)
      refine TC.skip' ?_
      refine TC.region ?_
      refine TL.run1 (pure_move rfl) rfl ?_
      refine TL.run1 (pure_move rfl) rfl ?_
      refine TL.run1 (pure_buildSlice (xs := [.tmp 43]) Ty.app45 (by decide) rfl rfl (.cons rfl (.one rfl) rfl .nil)) rfl ?_
      refine TL.run1 (pure_conv_bytes (ns := [iAt m i]) Tryd.underlying45 Tryd.underlying5 Tryd.underlying9 rfl) rfl ?_
      refine TL.run1 (pure_add_string (a := strOfNums (m.take i)) (b := strOfNums [iAt m i]) rfl rfl (by simp only [strOfNums_size, List.length_take, List.length_singleton]; omega)) rfl ?_
      refine TL.run1 (pure_assign rfl) rfl ?_
      refine TL.nil ?_
      refine block_normal ?_
      refine then_normal ?_
      refine TC.region ?_
      refine TL.run1 (pure_move rfl) rfl ?_
      refine TL.run1 (pure_add rfl rfl (mkI64 (by omega) (by omega))) rfl ?_
      refine TL.run1 (pure_assign rfl) rfl ?_
      refine TL.nil ?_
      have hw : wN m (i + 1) = wN m i := by (rw [wN, if_pos hp39]; rfl)
      have htk : m.take (i + 1) = m.take i ++ [iAt m i] := by (rw [List.take_succ_eq_append_getElem (by omega)]; unfold iAt; simp [show i < m.length by omega])
      refine loop_next (i + 1) ⟨by ((try dsimp only); rw [htk, strOfNums_append, hw, show (((i + 1 : Nat)) : Int) = (i : Int) + 1 by omega]; repeat (first | exact Agree.nil | refine Agree.cons rfl ?_)), by repeat (first | exact List.nil_sublist _ | exact List.Sublist.refl _ | apply List.Sublist.cons_cons | apply List.Sublist.cons)⟩ (show i + 1 ≤ c.length by omega) (by omega)
  · try dsimp only at hc17
    refine TC.exit ?_
    refine then_exit ?_
    refine loop_exit ?_
    refine block_here ?_
    refine then_normal ?_
    refine TC.seq ?_
    obtain rfl : i = m.length := by omega
    rw [List.take_of_length_le (Nat.le_refl _)]
    refine TC.region ?_
    refine TL.run1 (pure_move rfl) rfl ?_
    refine TL.run1 (pure_call (line_spec m hmm (by omega)) (.cons rfl .nil) Tryd.call21) rfl ?_
    refine TL.run1 (pure_move rfl) rfl ?_
    refine TL.run1 (pure_extract rfl rfl) rfl ?_
    refine TL.run1 (pure_extract rfl rfl) rfl ?_
    refine TL.run1 (pure_assign rfl) rfl ?_
    refine TL.run1 (pure_assign rfl) rfl ?_
    refine TL.nil' ?_
    refine TC.regionCut [52, 53, 54, 55, 56, 57, 58, 59, 60, 61, 2] 2 (True) ?_ ?_
    · skip
      refine TL.run1 (pure_call (known_spec) .nil Tryd.call12) rfl ?_
      refine TL.run1 (pure_move rfl) rfl ?_
      first | refine TL.splitP 53 rfl (fun hg53 => ?_) (fun hg53 => ?_) | refine TL.split 53 rfl (fun hg53 => ?_) (fun hg53 => ?_)
      · try dsimp only at hg53
        refine TL.runG rfl rfl (pure_move rfl) rfl ?_
        refine TL.runG rfl rfl (pure_eql rfl rfl) rfl ?_
        refine TL.run1 (pure_pick_true rfl rfl) rfl ?_
        refine TL.run1 (pure_move rfl) rfl ?_
        first | refine TL.splitP 57 rfl (fun hg57 => ?_) (fun hg57 => ?_) | refine TL.split 57 rfl (fun hg57 => ?_) (fun hg57 => ?_)
        · try dsimp only at hg57
          refine TL.runG rfl rfl (pure_move rfl) rfl ?_
          refine TL.runG rfl rfl (pure_move rfl) rfl ?_
          refine TL.runG rfl rfl (pure_eql rfl rfl) rfl ?_
          refine TL.run1 (pure_pick_true rfl rfl) rfl ?_
          refine TL.run1 (pure_assign rfl) rfl ?_
          refine TL.cutEnd (by repeat (first | exact Same.refl _ _ | refine Same.put rfl ?_)) rfl ?_
          first | rfl | (simp_all [encI, encT]; done) | (simp_all; omega) | grind
        · try dsimp only at hg57
          refine TL.passG rfl rfl rfl rfl ?_
          refine TL.passG rfl rfl rfl rfl ?_
          refine TL.passG rfl rfl rfl rfl ?_
          refine TL.run1 (pure_pick_false rfl rfl) rfl ?_
          refine TL.run1 (pure_assign rfl) rfl ?_
          refine TL.cutEnd (by repeat (first | exact Same.refl _ _ | refine Same.put rfl ?_)) rfl ?_
          first | rfl | (simp_all [encI, encT]; done) | (simp_all; omega) | grind
      · try dsimp only at hg53
        refine TL.passG rfl rfl rfl rfl ?_
        refine TL.passG rfl rfl rfl rfl ?_
        refine TL.run1 (pure_pick_false rfl rfl) rfl ?_
        refine TL.run1 (pure_move rfl) rfl ?_
        refine TL.passG rfl rfl rfl rfl ?_
        refine TL.passG rfl rfl rfl rfl ?_
        refine TL.passG rfl rfl rfl rfl ?_
        refine TL.run1 (pure_pick_false rfl rfl) rfl ?_
        refine TL.run1 (pure_assign rfl) rfl ?_
        refine TL.cutEnd (by repeat (first | exact Same.refl _ _ | refine Same.put rfl ?_)) rfl ?_
        first | rfl | (simp_all [encI, encT]; done) | (simp_all; omega) | grind
    refine TC.ret ?_
    exact ret_bool rfl (by simp)
end Go.Ob
