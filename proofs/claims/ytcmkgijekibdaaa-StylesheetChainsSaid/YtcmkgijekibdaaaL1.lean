import Derived.Test.YtcmkgijekibdaaaQ5
set_option linter.unusedVariables false
set_option linter.unusedSimpArgs false
namespace Go.Ob
open Go.Proofs

theorem findN_range (l : List Sty) (kind : Int) (name : ByteArray) : findN l kind name = -1 ∨ (0 ≤ findN l kind name ∧ findN l kind name < l.length) := by
  have := fiN_range (fun s => decide (s.kind = kind ∧ s.name = name)) l 0
  unfold findN; omega
theorem chTo_pre (l : List Sty) (id : Int) (i : Nat) : ∀ n, i ≤ n → ∃ r, chTo l id n = chTo l id i ++ r
  | 0, h => ⟨[], by rw [Nat.le_zero.1 h, List.append_nil]⟩
  | n + 1, h => by
    rcases Nat.lt_or_eq_of_le h with h | h
    · obtain ⟨r, hr⟩ := chTo_pre l id i n (Nat.le_of_lt_succ h)
      exact ⟨r ++ (if (yAt l n).base = id then [(yAt l n).id] else []), by rw [chTo, hr, List.append_assoc]⟩
    · exact ⟨[], by rw [h, List.append_nil]⟩
theorem chTo_at {l : List Sty} {id : Int} {i : Nat} (hi : i < l.length) (hb : (yAt l i).base = id) : (chTo l id i).length < (chTo l id l.length).length ∧ (encI (chTo l id l.length))[(((chTo l id i).length : Nat) : Int).toNat]? = some [.v (.int .i64 (yAt l i).id)] := by
  obtain ⟨r, hr⟩ := chTo_pre l id (i + 1) l.length (by omega)
  rw [chTo, if_pos hb] at hr
  rw [hr, Int.toNat_natCast]
  refine ⟨by simp only [List.length_append, List.length_cons]; omega, ?_⟩
  simp [encI]
set_option maxRecDepth 100000 in
theorem StylesheetNames_spec (s : ByteArray) : Fun Try.prog 4 [.v (.string s)] (.v (.bool true)) := by
  refine Fun.enter (n := 16) (rs := [.tmp 2]) Try.func4 rfl Try.ntmps4 Try.results4 rfl (fun w F => ?_)
  have hsz : (s.extract 0 (min s.size 100)).size ≤ 1000000000 := by rw [ByteArray.size_extract]; omega
  refine TC.seq ?_; refine TC.region ?_; refine TL.run1 (pure_assign rfl) rfl ?_; refine TL.nil' ?_; refine TC.seq ?_; refine TC.region ?_; refine TL.run1 (pure_move rfl) rfl ?_; refine TL.run1 (pure_move rfl) rfl ?_; refine TL.run1 (pure_len_str Try.underlying9 rfl) rfl ?_; refine TL.run1 (pure_min rfl rfl) rfl ?_; refine TL.run1 (pure_slice_str (l := 0) (h := min s.size 100) Try.underlying9 rfl rfl (by rw [show ((min s.size 100 : Nat) : Int) = min (s.size : Int) 100 by omega]; rfl) (by omega) (by omega)) rfl ?_; refine TL.run1 (pure_assign rfl) rfl ?_; refine TL.nil' ?_; refine TC.regionCut [8, 9, 10, 11, 12, 13, 14, 15, 2] 2 (True) ?_ ?_
  · skip
    refine TL.run1 (pure_call (known_spec) .nil Try.call13) rfl ?_; refine TL.run1 (pure_move rfl) rfl ?_
    first | refine TL.splitP 9 rfl (fun hg9 => ?_) (fun hg9 => ?_) | refine TL.split 9 rfl (fun hg9 => ?_) (fun hg9 => ?_)
    · try dsimp only at hg9
      refine TL.runG rfl rfl (pure_move rfl) rfl ?_; refine TL.runG rfl rfl (pure_call (IsName_spec _ hsz) (.cons rfl .nil) Try.call17) rfl ?_; refine TL.runG rfl rfl (pure_move rfl) rfl ?_; refine TL.runG rfl rfl (pure_call (RIsName_spec _ hsz) (.cons rfl .nil) Try.call18) rfl ?_; refine TL.runG rfl rfl (pure_eql_bool Try.underlying4 rfl rfl) rfl ?_; refine TL.run1 (pure_pick_true rfl rfl) rfl ?_; refine TL.run1 (pure_assign rfl) rfl ?_; refine TL.cutEnd (by repeat (first | exact Same.refl _ _ | refine Same.put rfl ?_)) rfl ?_
      first | (simp only [decide_eq_true_eq, Bool.false_eq_true, false_iff, true_iff, iff_true, iff_false, Bool.not_eq_true]; omega) | (simp_all; done) | (simp_all; omega) | grind
    · try dsimp only at hg9
      refine TL.passG rfl rfl rfl rfl ?_; refine TL.passG rfl rfl rfl rfl ?_; refine TL.passG rfl rfl rfl rfl ?_; refine TL.passG rfl rfl rfl rfl ?_; refine TL.passG rfl rfl rfl rfl ?_; refine TL.run1 (pure_pick_false rfl rfl) rfl ?_; refine TL.run1 (pure_assign rfl) rfl ?_; refine TL.cutEnd (by repeat (first | exact Same.refl _ _ | refine Same.put rfl ?_)) rfl ?_
      first | (simp only [decide_eq_true_eq, Bool.false_eq_true, false_iff, true_iff, iff_true, iff_false, Bool.not_eq_true]; omega) | (simp_all; done) | (simp_all; omega) | grind
  refine TC.ret ?_
  exact ret_bool rfl (by first | rfl | simp | simp_all)
set_option maxHeartbeats 1000000 in
set_option maxRecDepth 100000 in
theorem StylesheetFinds_spec (l : List Sty) (id : Int) (x : Sty) (hlal : l.length ≤ 9223372036854775807) : Fun Try.prog 6 [.sl 6 (encSs l), .v (.int .i64 id), .agg [.v (.int .i64 x.id), .v (.int .i64 x.kind), .v (.string x.name), .v (.int .i64 x.base), .v (.int .i64 x.next), .sl 2 (encP x.props)]] (.v (.bool true)) := by
  refine Fun.enter (n := 114) (rs := [.tmp 6]) Try.func6 rfl Try.ntmps6 Try.results6 rfl (fun w F => ?_)
  refine TC.seq ?_; refine TC.region ?_
  refine TL.box rfl (.agg _) rfl (fun g5 => ?_)
  refine TL.run1 (pure_assign rfl) rfl ?_; refine TL.nil' ?_; refine TC.seq ?_; refine TC.regionCut [16, 17, 18, 19, 20, 21, 22, 23, 24, 25, 26, 27, 28] 28 (¬ SmallP l ∨ 100 < ((x.name.size : Nat) : Int)) ?_ ?_
  · skip
    refine TL.run1 (pure_call (known_spec) .nil Try.call13) rfl ?_; refine TL.run1 (pure_not rfl) rfl ?_; refine TL.run1 (pure_move rfl) rfl ?_
    first | refine TL.splitP 18 rfl (fun hg18 => ?_) (fun hg18 => ?_) | refine TL.split 18 rfl (fun hg18 => ?_) (fun hg18 => ?_)
    · try dsimp only at hg18
      refine TL.passG rfl rfl rfl rfl ?_; refine TL.passG rfl rfl rfl rfl ?_; refine TL.passG rfl rfl rfl rfl ?_; refine TL.run1 (pure_pick_true rfl rfl) rfl ?_; refine TL.run1 (pure_move rfl) rfl ?_; refine TL.passG rfl rfl rfl rfl ?_; refine TL.passG rfl rfl rfl rfl ?_; refine TL.passG rfl rfl rfl rfl ?_; refine TL.passG rfl rfl rfl rfl ?_; refine TL.run1 (pure_pick_true rfl rfl) rfl ?_; refine TL.cutEnd (by repeat (first | exact Same.refl _ _ | refine Same.put rfl ?_)) rfl ?_
      first | (simp only [decide_eq_true_eq, Bool.false_eq_true, false_iff, true_iff, iff_true, iff_false, Bool.not_eq_true]; omega) | (simp_all; done) | (simp_all; omega) | grind
    · try dsimp only at hg18
      refine TL.runG rfl rfl (pure_move rfl) rfl ?_; refine TL.runG rfl rfl (pure_call (Small_spec l hlal) (.cons rfl .nil) Try.call14) rfl ?_; refine TL.runG rfl rfl (pure_not rfl) rfl ?_; refine TL.run1 (pure_pick_false rfl rfl) rfl ?_; refine TL.run1 (pure_move rfl) rfl ?_
      first | refine TL.splitP 23 rfl (fun hg23 => ?_) (fun hg23 => ?_) | refine TL.split 23 rfl (fun hg23 => ?_) (fun hg23 => ?_)
      · try dsimp only at hg23
        refine TL.passG rfl rfl rfl rfl ?_; refine TL.passG rfl rfl rfl rfl ?_; refine TL.passG rfl rfl rfl rfl ?_; refine TL.passG rfl rfl rfl rfl ?_; refine TL.run1 (pure_pick_true rfl rfl) rfl ?_; refine TL.cutEnd (by repeat (first | exact Same.refl _ _ | refine Same.put rfl ?_)) rfl ?_
        first | (simp only [decide_eq_true_eq, Bool.false_eq_true, false_iff, true_iff, iff_true, iff_false, Bool.not_eq_true]; omega) | (simp_all; done) | (simp_all; omega) | grind
      · try dsimp only at hg23
        first | refine TL.runG rfl rfl (pure_fieldAddr Ty.f28_2 rfl (.succ (.succ (.zero _))) (List.cons_ne_nil _ _)) rfl ?_ | refine TL.runG rfl rfl (pure_fieldAddr_own Ty.f28_2 rfl) rfl ?_
        first | refine TL.runG rfl rfl (pure_load1 Ty.one9 rfl) rfl ?_ | refine TL.runG rfl rfl (pure_load1_own Ty.one9 rfl (by repeat (first | exact List.Mem.head _ | apply List.Mem.tail)) (by repeat (first | exact DropR.zero _ | apply DropR.succ))) rfl ?_
        refine TL.runG rfl rfl (pure_len_str Try.underlying9 rfl) rfl ?_; refine TL.runG rfl rfl (pure_gtr rfl rfl) rfl ?_; refine TL.run1 (pure_pick_false rfl rfl) rfl ?_; refine TL.cutEnd (by repeat (first | exact Same.refl _ _ | refine Same.put rfl ?_)) rfl ?_
        first | (simp only [decide_eq_true_eq, Bool.false_eq_true, false_iff, true_iff, iff_true, iff_false, Bool.not_eq_true]; omega) | (simp_all; done) | (simp_all; omega) | grind
  first | refine TC.condD rfl (fun hc28 => ?_) (fun hc28 => ?_) | refine TC.condN rfl (fun hc28 => ?_) (fun hc28 => ?_) | refine TC.cond rfl (fun hc28 => ?_) (fun hc28 => ?_)
  · try dsimp only at hc28
    refine TC.seq ?_; refine TC.region ?_; refine TL.run1 (pure_call (known_spec) .nil Try.call13) rfl ?_; refine TL.run1 (pure_assign rfl) rfl ?_; refine TL.nil' ?_; refine TC.ret ?_; refine then_ret ?_
    exact ret_bool rfl (by first | rfl | simp | simp_all)
  · try dsimp only at hc28
    have hs : SmallP l := Classical.byContradiction fun h => hc28 (.inl h)
    obtain ⟨hl24, hsm⟩ := hs
    have hl : l.length ≤ 1000000 := by omega
    have hn : ∀ i, i < l.length → (yAt l i).name.size ≤ 1000000000 := fun i hi => by have := (hsm i hi).2; omega
    have hp : ∀ i, i < l.length → (yAt l i).props.length ≤ 1000000 := fun i hi => by have := (hsm i hi).1; omega
    refine TC.skip' ?_; refine TC.seq ?_; refine TC.region ?_; refine TL.run1 (pure_move rfl) rfl ?_; refine TL.run1 (pure_move rfl) rfl ?_; refine TL.run1 (pure_call (SFind_spec l id hl) (.cons rfl (.cons rfl .nil)) Try.call24) rfl ?_; refine TL.run1 (pure_move rfl) rfl ?_; refine TL.run1 (pure_extract rfl rfl) rfl ?_; refine TL.run1 (pure_extract rfl rfl) rfl ?_; refine TL.run1 (pure_assign rfl) rfl ?_; refine TL.run1 (pure_assign rfl) rfl ?_; refine TL.nil' ?_; refine TC.seq ?_; refine TC.region ?_; refine TL.run1 (pure_move rfl) rfl ?_
    first | refine TL.run1 (pure_fieldAddr Ty.f28_1 rfl (.succ (.zero _)) (List.cons_ne_nil _ _)) rfl ?_ | refine TL.run1 (pure_fieldAddr_own Ty.f28_1 rfl) rfl ?_
    first | refine TL.run1 (pure_load1 Ty.one3 rfl) rfl ?_ | refine TL.run1 (pure_load1_own Ty.one3 rfl (by repeat (first | exact List.Mem.head _ | apply List.Mem.tail)) (by repeat (first | exact DropR.zero _ | apply DropR.succ))) rfl ?_
    first | refine TL.run1 (pure_fieldAddr Ty.f28_2 rfl (.succ (.succ (.zero _))) (List.cons_ne_nil _ _)) rfl ?_ | refine TL.run1 (pure_fieldAddr_own Ty.f28_2 rfl) rfl ?_
    first | refine TL.run1 (pure_load1 Ty.one9 rfl) rfl ?_ | refine TL.run1 (pure_load1_own Ty.one9 rfl (by repeat (first | exact List.Mem.head _ | apply List.Mem.tail)) (by repeat (first | exact DropR.zero _ | apply DropR.succ))) rfl ?_
    refine TL.run1 (pure_call (SFindName_spec l x.kind x.name hl) (.cons rfl (.cons rfl (.cons rfl .nil))) Try.call25) rfl ?_; refine TL.run1 (pure_move rfl) rfl ?_; refine TL.run1 (pure_extract rfl rfl) rfl ?_; refine TL.run1 (pure_extract rfl rfl) rfl ?_; refine TL.run1 (pure_assign rfl) rfl ?_; refine TL.run1 (pure_assign rfl) rfl ?_; refine TL.nil' ?_; refine TC.seq ?_; refine TC.draw Ty.follows (by kernel_rfl) ?_; refine TD.run1 (pure_move rfl) rfl ?_; refine TD.run1 (pure_move rfl) rfl ?_; refine TD.run1 (pure_call (RFind_spec l id hl) (.cons rfl (.cons rfl .nil)) Try.call26) rfl ?_; refine TD.run1 (pure_move rfl) rfl ?_
    first | refine TD.run1 (pure_fieldAddr Ty.f28_1 rfl (.succ (.zero _)) (List.cons_ne_nil _ _)) rfl ?_ | refine TD.run1 (pure_fieldAddr_own Ty.f28_1 rfl) rfl ?_
    first | refine TD.run1 (pure_load1 Ty.one3 rfl) rfl ?_ | refine TD.run1 (pure_load1_own Ty.one3 rfl (by repeat (first | exact List.Mem.head _ | apply List.Mem.tail)) (by repeat (first | exact DropR.zero _ | apply DropR.succ))) rfl ?_
    first | refine TD.run1 (pure_fieldAddr Ty.f28_2 rfl (.succ (.succ (.zero _))) (List.cons_ne_nil _ _)) rfl ?_ | refine TD.run1 (pure_fieldAddr_own Ty.f28_2 rfl) rfl ?_
    first | refine TD.run1 (pure_load1 Ty.one9 rfl) rfl ?_ | refine TD.run1 (pure_load1_own Ty.one9 rfl (by repeat (first | exact List.Mem.head _ | apply List.Mem.tail)) (by repeat (first | exact DropR.zero _ | apply DropR.succ))) rfl ?_
    refine TD.run1 (pure_call (RFindName_spec l x.kind x.name hl) (.cons rfl (.cons rfl (.cons rfl .nil))) Try.call27) rfl ?_; refine TD.run1 (pure_assign rfl) rfl ?_; refine TD.run1 (pure_assign rfl) rfl ?_; refine TD.nil' ?_; refine TC.seq ?_; refine TC.regionCut [54, 55, 56, 57, 58, 59, 60, 61, 62, 63, 64, 65, 66, 67, 68, 69, 70, 71, 72, 73, 74, 75] 75 (False) ?_ ?_
    · skip
      refine TL.run1 (pure_move rfl) rfl ?_; refine TL.run1 (pure_move rfl) rfl ?_; refine TL.run1 (pure_geq rfl rfl) rfl ?_; refine TL.run1 (pure_neq_bool Try.underlying4 rfl rfl) rfl ?_; refine TL.run1 (pure_move rfl) rfl ?_
      first | refine TL.splitP 58 rfl (fun hg58 => ?_) (fun hg58 => ?_) | refine TL.split 58 rfl (fun hg58 => ?_) (fun hg58 => ?_)
      · try dsimp only at hg58
        refine TL.passG rfl rfl rfl rfl ?_; refine TL.passG rfl rfl rfl rfl ?_; refine TL.passG rfl rfl rfl rfl ?_; refine TL.passG rfl rfl rfl rfl ?_; refine TL.run1 (pure_pick_true rfl rfl) rfl ?_; refine TL.run1 (pure_move rfl) rfl ?_; refine TL.passG rfl rfl rfl rfl ?_; refine TL.passG rfl rfl rfl rfl ?_; refine TL.passG rfl rfl rfl rfl ?_; refine TL.passG rfl rfl rfl rfl ?_; refine TL.run1 (pure_pick_true rfl rfl) rfl ?_; refine TL.run1 (pure_move rfl) rfl ?_; refine TL.passG rfl rfl rfl rfl ?_; refine TL.passG rfl rfl rfl rfl ?_; refine TL.passG rfl rfl rfl rfl ?_; refine TL.passG rfl rfl rfl rfl ?_; refine TL.run1 (pure_pick_true rfl rfl) rfl ?_; refine TL.cutEnd (by repeat (first | exact Same.refl _ _ | refine Same.put rfl ?_)) rfl ?_
        first | (simp; done) | (simp_all; done)
      · try dsimp only at hg58
        refine TL.runG rfl rfl (pure_move rfl) rfl ?_; refine TL.runG rfl rfl (pure_move rfl) rfl ?_; refine TL.runG rfl rfl (pure_geq rfl rfl) rfl ?_; refine TL.runG rfl rfl (pure_neq_bool Try.underlying4 rfl rfl) rfl ?_; refine TL.run1 (pure_pick_false rfl rfl) rfl ?_; refine TL.run1 (pure_move rfl) rfl ?_
        first | refine TL.splitP 64 rfl (fun hg64 => ?_) (fun hg64 => ?_) | refine TL.split 64 rfl (fun hg64 => ?_) (fun hg64 => ?_)
        · try dsimp only at hg64
          refine TL.passG rfl rfl rfl rfl ?_; refine TL.passG rfl rfl rfl rfl ?_; refine TL.passG rfl rfl rfl rfl ?_; refine TL.passG rfl rfl rfl rfl ?_; refine TL.run1 (pure_pick_true rfl rfl) rfl ?_; refine TL.run1 (pure_move rfl) rfl ?_; refine TL.passG rfl rfl rfl rfl ?_; refine TL.passG rfl rfl rfl rfl ?_; refine TL.passG rfl rfl rfl rfl ?_; refine TL.passG rfl rfl rfl rfl ?_; refine TL.run1 (pure_pick_true rfl rfl) rfl ?_; refine TL.cutEnd (by repeat (first | exact Same.refl _ _ | refine Same.put rfl ?_)) rfl ?_
          first | (simp; done) | (simp_all; done)
        · try dsimp only at hg64
          refine TL.runG rfl rfl (pure_move rfl) rfl ?_; refine TL.runG rfl rfl (pure_move rfl) rfl ?_; refine TL.runG rfl rfl (pure_max rfl rfl) rfl ?_; refine TL.runG rfl rfl (pure_neq rfl rfl) rfl ?_; refine TL.run1 (pure_pick_false rfl rfl) rfl ?_; refine TL.run1 (pure_move rfl) rfl ?_
          first | refine TL.splitP 70 rfl (fun hg70 => ?_) (fun hg70 => ?_) | refine TL.split 70 rfl (fun hg70 => ?_) (fun hg70 => ?_)
          · try dsimp only at hg70
            refine TL.passG rfl rfl rfl rfl ?_; refine TL.passG rfl rfl rfl rfl ?_; refine TL.passG rfl rfl rfl rfl ?_; refine TL.passG rfl rfl rfl rfl ?_; refine TL.run1 (pure_pick_true rfl rfl) rfl ?_; refine TL.cutEnd (by repeat (first | exact Same.refl _ _ | refine Same.put rfl ?_)) rfl ?_
            first | (simp; done) | (simp_all; done)
          · try dsimp only at hg70
            refine TL.runG rfl rfl (pure_move rfl) rfl ?_; refine TL.runG rfl rfl (pure_move rfl) rfl ?_; refine TL.runG rfl rfl (pure_max rfl rfl) rfl ?_; refine TL.runG rfl rfl (pure_neq rfl rfl) rfl ?_; refine TL.run1 (pure_pick_false rfl rfl) rfl ?_; refine TL.cutEnd (by repeat (first | exact Same.refl _ _ | refine Same.put rfl ?_)) rfl ?_
            first | (simp; done) | (simp_all; done)
    first | refine TC.condD rfl (fun hc75 => ?_) (fun hc75 => ?_) | refine TC.condN rfl (fun hc75 => ?_) (fun hc75 => ?_) | refine TC.cond rfl (fun hc75 => ?_) (fun hc75 => ?_)
    · try dsimp only at hc75
      all_goals exact absurd hc75 id
    · try dsimp only at hc75
      refine TC.skip' ?_; refine TC.seq ?_
      have hk := encSs_len l
      have hce := encI_len (chTo l id l.length)
      refine TC.region ?_; refine TL.run1 (pure_move rfl) rfl ?_; refine TL.run1 (pure_move rfl) rfl ?_; refine TL.run1 (pure_call (Children_spec l id hl) (.cons rfl (.cons rfl .nil)) Try.call28) rfl ?_; refine TL.run1 (pure_assign rfl) rfl ?_; refine TL.nil' ?_; refine TC.seq ?_; refine TC.region ?_; refine TL.run1 (pure_assign rfl) rfl ?_; refine TL.nil' ?_; refine TC.seq ?_; refine TC.seq ?_; refine TC.region ?_; refine TL.run1 (pure_assign rfl) rfl ?_; refine TL.nil' ?_; refine TC.block ?_; refine TC.loopX (X := Nat) (fun i => [(0, .sl 6 (encSs l)), (1, .v (.int .i64 id)), (13, .sl 1 (encI (chTo l id l.length))), (14, .v (.int .i64 ((chTo l id i).length : Nat))), (15, .v (.int .i64 i))]) (fun i => []) (fun i => (i ≤ l.length)) (fun i => l.length - i) (0) ⟨by skip; repeat (first | exact Agree.nil | refine Agree.cons rfl ?_), by skip; repeat (first | exact List.nil_sublist _ | exact List.Sublist.refl _ | apply List.Sublist.cons_cons | apply List.Sublist.cons)⟩ ?_ ?_
      · skip
        exact Nat.zero_le _
      intro i
      intro h1
      show TC _ _ _ (Env.of [(0, .sl 6 (encSs l)), (1, .v (.int .i64 id)), (13, .sl 1 (encI (chTo l id l.length))), (14, .v (.int .i64 ((chTo l id i).length : Nat))), (15, .v (.int .i64 i))]) []
      refine TC.seq ?_; refine TC.seq ?_; refine TC.region ?_; refine TL.run1 (pure_move rfl) rfl ?_; refine TL.run1 (pure_move rfl) rfl ?_
      first | refine TL.run1 (pure_len Ty.sl22 rfl) rfl ?_ | refine TL.run1 (pure_len_row Ty.sl22 rfl (by repeat (first | exact List.Mem.head _ | apply List.Mem.tail))) rfl ?_ | refine TL.run1 (pure_len_nil Ty.sl22 rfl) rfl ?_
      refine TL.run1 (pure_lss rfl rfl) rfl ?_; refine TL.nil' ?_
      first | refine TC.condD rfl (fun hc82 => ?_) (fun hc82 => ?_) | refine TC.condN rfl (fun hc82 => ?_) (fun hc82 => ?_) | refine TC.cond rfl (fun hc82 => ?_) (fun hc82 => ?_)
      · try dsimp only at hc82
        refine TC.skip' ?_; refine TC.seq ?_; refine TC.block ?_; refine TC.seq ?_; refine TC.seq ?_
        have hcn := chTo_len l id i
        have hil : i < l.length := by omega
        have hrow := encSs_get l i hil
        refine TC.region ?_; refine TL.run1 (pure_move rfl) rfl ?_; refine TL.run1 (pure_move rfl) rfl ?_; refine TL.run1 (pure_indexAddr Ty.sl22 rfl rfl (by omega) hrow (List.cons_ne_nil _ _)) rfl ?_
        first | refine TL.run1 (pure_fieldAddr Ty.f28_3 rfl (.succ (.succ (.succ (.zero _)))) (List.cons_ne_nil _ _)) rfl ?_ | refine TL.run1 (pure_fieldAddr_own Ty.f28_3 rfl) rfl ?_
        first | refine TL.run1 (pure_load1 Ty.one3 rfl) rfl ?_ | refine TL.run1 (pure_load1_own Ty.one3 rfl (by repeat (first | exact List.Mem.head _ | apply List.Mem.tail)) (by repeat (first | exact DropR.zero _ | apply DropR.succ))) rfl ?_
        refine TL.run1 (pure_move rfl) rfl ?_; refine TL.run1 (pure_neq rfl rfl) rfl ?_; refine TL.nil' ?_
        first | refine TC.condD rfl (fun hc91 => ?_) (fun hc91 => ?_) | refine TC.condN rfl (fun hc91 => ?_) (fun hc91 => ?_) | refine TC.cond rfl (fun hc91 => ?_) (fun hc91 => ?_)
        · try dsimp only at hc91
          refine TC.exit ?_; refine then_exit ?_; refine block_here ?_; refine then_normal ?_; refine TC.region ?_; refine TL.run1 (pure_move rfl) rfl ?_; refine TL.run1 (pure_add rfl rfl (mkI64 (by omega) (by omega))) rfl ?_; refine TL.run1 (pure_assign rfl) rfl ?_; refine TL.nil ?_
          have hst : (chTo l id (i + 1)).length = (chTo l id i).length := by rw [chTo, if_neg hc91, List.append_nil]
          refine loop_next (i + 1) ⟨by ((try dsimp only); rw [hst, show (((i + 1 : Nat)) : Int) = (i : Int) + 1 by omega]; repeat (first | exact Agree.nil | refine Agree.cons rfl ?_)), by repeat (first | exact List.nil_sublist _ | exact List.Sublist.refl _ | apply List.Sublist.cons_cons | apply List.Sublist.cons)⟩ (show i + 1 ≤ _ by omega) (by omega)
        · try dsimp only at hc91
          have hb : (yAt l i).base = id := Classical.not_not.1 hc91
          obtain ⟨hlt, hrk⟩ := chTo_at hil hb
          refine TC.skip' ?_; refine TC.seq ?_; refine TC.drawCut [92, 93, 94, 95, 96, 97, 98, 99, 100, 101, 102, 103, 104, 105, 106, 107] 107 (False) Ty.follows (by kernel_rfl) ?_ ?_
          · skip
            refine TD.run1 (pure_move rfl) rfl ?_; refine TD.run1 (pure_move rfl) rfl ?_
            first | refine TD.run1 (pure_len Ty.sl50 rfl) rfl ?_ | refine TD.run1 (pure_len_row Ty.sl50 rfl (by repeat (first | exact List.Mem.head _ | apply List.Mem.tail))) rfl ?_ | refine TD.run1 (pure_len_nil Ty.sl50 rfl) rfl ?_
            refine TD.run1 (pure_geq rfl rfl) rfl ?_; refine TD.run1 (pure_move rfl) rfl ?_
            first | refine TD.splitP 96 rfl (fun hg96 => ?_) (fun hg96 => ?_) | refine TD.split 96 rfl (fun hg96 => ?_) (fun hg96 => ?_)
            · try dsimp only at hg96
              refine TD.passG rfl rfl rfl rfl ?_; refine TD.passG rfl rfl rfl rfl ?_; refine TD.passG rfl rfl rfl rfl ?_; refine TD.passG rfl rfl rfl rfl ?_; refine TD.passG rfl rfl rfl rfl ?_; refine TD.passG rfl rfl rfl rfl ?_; refine TD.passG rfl rfl rfl rfl ?_; refine TD.passG rfl rfl rfl rfl ?_; refine TD.passG rfl rfl rfl rfl ?_; refine TD.passG rfl rfl rfl rfl ?_; refine TD.run1 (pure_pick_true rfl rfl) rfl ?_; refine TD.cutEnd (by repeat (first | exact Same.refl _ _ | refine Same.put rfl ?_)) rfl ?_
              first | (simp; done) | (simp_all; done) | (simp_all; omega)
            · try dsimp only at hg96
              refine TD.runG rfl rfl (pure_move rfl) rfl ?_; refine TD.runG rfl rfl (pure_move rfl) rfl ?_; refine TD.runG rfl rfl (pure_indexAddr Ty.sl50 rfl rfl (by omega) hrk (List.cons_ne_nil _ _)) rfl ?_
              first | refine TD.runG rfl rfl (pure_load1 Ty.one3 rfl) rfl ?_ | refine TD.runG rfl rfl (pure_load1_own Ty.one3 rfl (by repeat (first | exact List.Mem.head _ | apply List.Mem.tail)) (by repeat (first | exact DropR.zero _ | apply DropR.succ))) rfl ?_
              refine TD.runG rfl rfl (pure_move rfl) rfl ?_; refine TD.runG rfl rfl (pure_move rfl) rfl ?_; refine TD.runG rfl rfl (pure_indexAddr Ty.sl22 rfl rfl (by omega) hrow (List.cons_ne_nil _ _)) rfl ?_
              first | refine TD.runG rfl rfl (pure_fieldAddr Ty.f28_0 rfl (.zero _) (List.cons_ne_nil _ _)) rfl ?_ | refine TD.runG rfl rfl (pure_fieldAddr_own Ty.f28_0 rfl) rfl ?_
              first | refine TD.runG rfl rfl (pure_load1 Ty.one3 rfl) rfl ?_ | refine TD.runG rfl rfl (pure_load1_own Ty.one3 rfl (by repeat (first | exact List.Mem.head _ | apply List.Mem.tail)) (by repeat (first | exact DropR.zero _ | apply DropR.succ))) rfl ?_
              refine TD.runG rfl rfl (pure_neq rfl rfl) rfl ?_; refine TD.run1 (pure_pick_false rfl rfl) rfl ?_; refine TD.cutEnd (by repeat (first | exact Same.refl _ _ | refine Same.put rfl ?_)) rfl ?_
              first | (simp; done) | (simp_all; done) | (simp_all; omega)
          first | refine TC.condD rfl (fun hc107 => ?_) (fun hc107 => ?_) | refine TC.condN rfl (fun hc107 => ?_) (fun hc107 => ?_) | refine TC.cond rfl (fun hc107 => ?_) (fun hc107 => ?_)
          · try dsimp only at hc107
            all_goals exact absurd hc107 id
          · try dsimp only at hc107
            refine TC.skip' ?_; refine TC.region ?_; refine TL.run1 (pure_move rfl) rfl ?_; refine TL.run1 (pure_add rfl rfl (mkI64 (by omega) (by omega))) rfl ?_; refine TL.run1 (pure_assign rfl) rfl ?_; refine TL.nil ?_; refine block_normal ?_; refine then_normal ?_; refine TC.region ?_; refine TL.run1 (pure_move rfl) rfl ?_; refine TL.run1 (pure_add rfl rfl (mkI64 (by omega) (by omega))) rfl ?_; refine TL.run1 (pure_assign rfl) rfl ?_; refine TL.nil ?_
            have hst : (chTo l id (i + 1)).length = (chTo l id i).length + 1 := by rw [chTo, if_pos hb, List.length_append]; rfl
            refine loop_next (i + 1) ⟨by ((try dsimp only); rw [hst, show (((i + 1 : Nat)) : Int) = (i : Int) + 1 by omega]; repeat (first | exact Agree.nil | refine Agree.cons rfl ?_)), by repeat (first | exact List.nil_sublist _ | exact List.Sublist.refl _ | apply List.Sublist.cons_cons | apply List.Sublist.cons)⟩ (show i + 1 ≤ _ by omega) (by omega)
      · try dsimp only at hc82
        have hie : i = l.length := by omega
        subst hie
        refine TC.exit ?_; refine then_exit ?_; refine loop_exit ?_; refine block_here ?_; refine then_normal ?_; refine TC.seq ?_; refine TC.region ?_; refine TL.run1 (pure_move rfl) rfl ?_; refine TL.run1 (pure_move rfl) rfl ?_
        first | refine TL.run1 (pure_len Ty.sl50 rfl) rfl ?_ | refine TL.run1 (pure_len_row Ty.sl50 rfl (by repeat (first | exact List.Mem.head _ | apply List.Mem.tail))) rfl ?_ | refine TL.run1 (pure_len_nil Ty.sl50 rfl) rfl ?_
        refine TL.run1 (pure_eql rfl rfl) rfl ?_; refine TL.run1 (pure_assign rfl) rfl ?_; refine TL.nil' ?_; refine TC.ret ?_
        exact ret_bool rfl (decide_eq_true (by omega))
set_option maxRecDepth 100000 in
theorem StylesheetEquals_spec (a b : List Sty) (hlaa : a.length ≤ 9223372036854775807) (hlab : b.length ≤ 9223372036854775807) : Fun Try.prog 9 [.sl 6 (encSs a), .sl 6 (encSs b)] (.v (.bool true)) := by
  refine Fun.enter (n := 39) (rs := [.tmp 4]) Try.func9 rfl Try.ntmps9 Try.results9 rfl (fun w F => ?_)
  refine TC.seq ?_; refine TC.region ?_; refine TL.run1 (pure_assign rfl) rfl ?_; refine TL.nil' ?_; refine TC.seq ?_; refine TC.regionCut [5, 6, 7, 8, 9, 10, 11, 12, 13, 14, 15, 16] 16 (¬ SmallP a ∨ ¬ SmallP b) ?_ ?_
  · skip
    refine TL.run1 (pure_call (known_spec) .nil Try.call13) rfl ?_; refine TL.run1 (pure_not rfl) rfl ?_; refine TL.run1 (pure_move rfl) rfl ?_
    first | refine TL.splitP 7 rfl (fun hg7 => ?_) (fun hg7 => ?_) | refine TL.split 7 rfl (fun hg7 => ?_) (fun hg7 => ?_)
    · try dsimp only at hg7
      refine TL.passG rfl rfl rfl rfl ?_; refine TL.passG rfl rfl rfl rfl ?_; refine TL.passG rfl rfl rfl rfl ?_; refine TL.run1 (pure_pick_true rfl rfl) rfl ?_; refine TL.run1 (pure_move rfl) rfl ?_; refine TL.passG rfl rfl rfl rfl ?_; refine TL.passG rfl rfl rfl rfl ?_; refine TL.passG rfl rfl rfl rfl ?_; refine TL.run1 (pure_pick_true rfl rfl) rfl ?_; refine TL.cutEnd (by repeat (first | exact Same.refl _ _ | refine Same.put rfl ?_)) rfl ?_
      first | (simp only [decide_eq_true_eq, Bool.false_eq_true, false_iff, true_iff, iff_true, iff_false, Bool.not_eq_true]; omega) | (simp_all; done) | (simp_all; omega) | grind
    · try dsimp only at hg7
      refine TL.runG rfl rfl (pure_move rfl) rfl ?_
      first | refine TL.runG rfl rfl (pure_call (Small_spec a hlaa) (.cons rfl .nil) Try.call14) rfl ?_ | refine TL.runG rfl rfl (pure_call (Small_spec b hlab) (.cons rfl .nil) Try.call14) rfl ?_
      refine TL.runG rfl rfl (pure_not rfl) rfl ?_; refine TL.run1 (pure_pick_false rfl rfl) rfl ?_; refine TL.run1 (pure_move rfl) rfl ?_
      first | refine TL.splitP 12 rfl (fun hg12 => ?_) (fun hg12 => ?_) | refine TL.split 12 rfl (fun hg12 => ?_) (fun hg12 => ?_)
      · try dsimp only at hg12
        refine TL.passG rfl rfl rfl rfl ?_; refine TL.passG rfl rfl rfl rfl ?_; refine TL.passG rfl rfl rfl rfl ?_; refine TL.run1 (pure_pick_true rfl rfl) rfl ?_; refine TL.cutEnd (by repeat (first | exact Same.refl _ _ | refine Same.put rfl ?_)) rfl ?_
        first | (simp only [decide_eq_true_eq, Bool.false_eq_true, false_iff, true_iff, iff_true, iff_false, Bool.not_eq_true]; omega) | (simp_all; done) | (simp_all; omega) | grind
      · try dsimp only at hg12
        refine TL.runG rfl rfl (pure_move rfl) rfl ?_
        first | refine TL.runG rfl rfl (pure_call (Small_spec a hlaa) (.cons rfl .nil) Try.call14) rfl ?_ | refine TL.runG rfl rfl (pure_call (Small_spec b hlab) (.cons rfl .nil) Try.call14) rfl ?_
        refine TL.runG rfl rfl (pure_not rfl) rfl ?_; refine TL.run1 (pure_pick_false rfl rfl) rfl ?_; refine TL.cutEnd (by repeat (first | exact Same.refl _ _ | refine Same.put rfl ?_)) rfl ?_
        first | (simp only [decide_eq_true_eq, Bool.false_eq_true, false_iff, true_iff, iff_true, iff_false, Bool.not_eq_true]; omega) | (simp_all; done) | (simp_all; omega) | grind
  first | refine TC.condD rfl (fun hc16 => ?_) (fun hc16 => ?_) | refine TC.condN rfl (fun hc16 => ?_) (fun hc16 => ?_) | refine TC.cond rfl (fun hc16 => ?_) (fun hc16 => ?_)
  · try dsimp only at hc16
    refine TC.seq ?_; refine TC.region ?_; refine TL.run1 (pure_call (known_spec) .nil Try.call13) rfl ?_; refine TL.run1 (pure_assign rfl) rfl ?_; refine TL.nil' ?_; refine TC.ret ?_; refine then_ret ?_
    exact ret_bool rfl (by first | rfl | simp | simp_all)
  · try dsimp only at hc16
    have hs : SmallP a := Classical.byContradiction fun h => hc16 (.inl h)
    have hs2 : SmallP b := Classical.byContradiction fun h => hc16 (.inr h)
    have hl : a.length ≤ 1000000 := by have := hs.1; omega
    have hlb : b.length ≤ 1000000 := by have := hs2.1; omega
    have hpa : ∀ i, i < a.length → (yAt a i).props.length ≤ 1000000 := fun i hi => by have := (hs.2 i hi).1; omega
    have hpb : ∀ i, i < b.length → (yAt b i).props.length ≤ 1000000 := fun i hi => by have := (hs2.2 i hi).1; omega
    refine TC.skip' ?_; refine TC.regionCut [18, 19, 20, 21, 22, 23, 24, 25, 26, 27, 28, 29, 30, 31, 32, 33, 34, 35, 36, 37, 38, 4] 4 (True) ?_ ?_
    · skip
      refine TL.run1 (pure_move rfl) rfl ?_; refine TL.run1 (pure_move rfl) rfl ?_
      first | refine TL.run1 (pure_call (SEqual_spec a b hpa hl) (.cons rfl (.cons rfl .nil)) Try.call34) rfl ?_ | refine TL.run1 (pure_call (SEqual_spec b a hpb hlb) (.cons rfl (.cons rfl .nil)) Try.call34) rfl ?_ | refine TL.run1 (pure_call (SEqual_spec a a hpa hl) (.cons rfl (.cons rfl .nil)) Try.call34) rfl ?_
      refine TL.run1 (pure_move rfl) rfl ?_; refine TL.run1 (pure_move rfl) rfl ?_; refine TL.run1 (pure_call (REqual_spec a b hpa hl) (.cons rfl (.cons rfl .nil)) Try.call35) rfl ?_; refine TL.run1 (pure_eql_bool Try.underlying4 rfl rfl) rfl ?_; refine TL.run1 (pure_move rfl) rfl ?_
      first | refine TL.splitP 25 rfl (fun hg25 => ?_) (fun hg25 => ?_) | refine TL.split 25 rfl (fun hg25 => ?_) (fun hg25 => ?_)
      · try dsimp only at hg25
        refine TL.runG rfl rfl (pure_move rfl) rfl ?_; refine TL.runG rfl rfl (pure_move rfl) rfl ?_
        first | refine TL.runG rfl rfl (pure_call (SEqual_spec a b hpa hl) (.cons rfl (.cons rfl .nil)) Try.call34) rfl ?_ | refine TL.runG rfl rfl (pure_call (SEqual_spec b a hpb hlb) (.cons rfl (.cons rfl .nil)) Try.call34) rfl ?_ | refine TL.runG rfl rfl (pure_call (SEqual_spec a a hpa hl) (.cons rfl (.cons rfl .nil)) Try.call34) rfl ?_
        refine TL.runG rfl rfl (pure_move rfl) rfl ?_; refine TL.runG rfl rfl (pure_move rfl) rfl ?_; refine TL.runG rfl rfl (pure_call (REqual_spec a b hpa hl) (.cons rfl (.cons rfl .nil)) Try.call35) rfl ?_; refine TL.runG rfl rfl (pure_eql_bool Try.underlying4 rfl rfl) rfl ?_; refine TL.run1 (pure_pick_true rfl rfl) rfl ?_; refine TL.run1 (pure_move rfl) rfl ?_
        first | refine TL.splitP 34 rfl (fun hg34 => ?_) (fun hg34 => ?_) | refine TL.split 34 rfl (fun hg34 => ?_) (fun hg34 => ?_)
        · try dsimp only at hg34
          refine TL.runG rfl rfl (pure_move rfl) rfl ?_; refine TL.runG rfl rfl (pure_move rfl) rfl ?_
          first | refine TL.runG rfl rfl (pure_call (SEqual_spec a b hpa hl) (.cons rfl (.cons rfl .nil)) Try.call34) rfl ?_ | refine TL.runG rfl rfl (pure_call (SEqual_spec b a hpb hlb) (.cons rfl (.cons rfl .nil)) Try.call34) rfl ?_ | refine TL.runG rfl rfl (pure_call (SEqual_spec a a hpa hl) (.cons rfl (.cons rfl .nil)) Try.call34) rfl ?_
          refine TL.run1 (pure_pick_true rfl rfl) rfl ?_; refine TL.run1 (pure_assign rfl) rfl ?_; refine TL.cutEnd (by repeat (first | exact Same.refl _ _ | refine Same.put rfl ?_)) rfl ?_
          first | (simp [eq_comm]; done) | (simp_all [eq_comm]; done) | grind
        · try dsimp only at hg34
          refine TL.passG rfl rfl rfl rfl ?_; refine TL.passG rfl rfl rfl rfl ?_; refine TL.passG rfl rfl rfl rfl ?_; refine TL.run1 (pure_pick_false rfl rfl) rfl ?_; refine TL.run1 (pure_assign rfl) rfl ?_; refine TL.cutEnd (by repeat (first | exact Same.refl _ _ | refine Same.put rfl ?_)) rfl ?_
          first | (simp [eq_comm]; done) | (simp_all [eq_comm]; done) | grind
      · try dsimp only at hg25
        refine TL.passG rfl rfl rfl rfl ?_; refine TL.passG rfl rfl rfl rfl ?_; refine TL.passG rfl rfl rfl rfl ?_; refine TL.passG rfl rfl rfl rfl ?_; refine TL.passG rfl rfl rfl rfl ?_; refine TL.passG rfl rfl rfl rfl ?_; refine TL.passG rfl rfl rfl rfl ?_; refine TL.run1 (pure_pick_false rfl rfl) rfl ?_; refine TL.run1 (pure_move rfl) rfl ?_; refine TL.passG rfl rfl rfl rfl ?_; refine TL.passG rfl rfl rfl rfl ?_; refine TL.passG rfl rfl rfl rfl ?_; refine TL.run1 (pure_pick_false rfl rfl) rfl ?_; refine TL.run1 (pure_assign rfl) rfl ?_; refine TL.cutEnd (by repeat (first | exact Same.refl _ _ | refine Same.put rfl ?_)) rfl ?_
        first | (simp [eq_comm]; done) | (simp_all [eq_comm]; done) | grind
    refine TC.ret ?_
    exact ret_bool rfl (by first | rfl | simp | simp_all)
set_option maxHeartbeats 1000000 in
set_option maxRecDepth 100000 in
theorem StylesheetEffective_spec (l : List Sty) (id : Int) (hlal : l.length ≤ 9223372036854775807) : Fun Try.prog 8 [.sl 6 (encSs l), .v (.int .i64 id)] (.v (.bool true)) := by
  refine Fun.enter (n := 51) (rs := [.tmp 4]) Try.func8 rfl Try.ntmps8 Try.results8 rfl (fun w F => ?_)
  refine TC.seq ?_; refine TC.region ?_; refine TL.run1 (pure_assign rfl) rfl ?_; refine TL.nil' ?_; refine TC.seq ?_; refine TC.regionCut [8, 9, 10, 11, 12, 13, 14] 14 (¬ SmallP l) ?_ ?_
  · skip
    refine TL.run1 (pure_call (known_spec) .nil Try.call13) rfl ?_; refine TL.run1 (pure_not rfl) rfl ?_; refine TL.run1 (pure_move rfl) rfl ?_
    first | refine TL.splitP 10 rfl (fun hg10 => ?_) (fun hg10 => ?_) | refine TL.split 10 rfl (fun hg10 => ?_) (fun hg10 => ?_)
    · try dsimp only at hg10
      refine TL.passG rfl rfl rfl rfl ?_; refine TL.passG rfl rfl rfl rfl ?_; refine TL.passG rfl rfl rfl rfl ?_; refine TL.run1 (pure_pick_true rfl rfl) rfl ?_; refine TL.cutEnd (by repeat (first | exact Same.refl _ _ | refine Same.put rfl ?_)) rfl ?_
      first | (simp only [decide_eq_true_eq, Bool.false_eq_true, false_iff, true_iff, iff_true, iff_false, Bool.not_eq_true]; omega) | (simp_all; done) | (simp_all; omega) | grind
    · try dsimp only at hg10
      refine TL.runG rfl rfl (pure_move rfl) rfl ?_; refine TL.runG rfl rfl (pure_call (Small_spec l hlal) (.cons rfl .nil) Try.call14) rfl ?_; refine TL.runG rfl rfl (pure_not rfl) rfl ?_; refine TL.run1 (pure_pick_false rfl rfl) rfl ?_; refine TL.cutEnd (by repeat (first | exact Same.refl _ _ | refine Same.put rfl ?_)) rfl ?_
      first | (simp only [decide_eq_true_eq, Bool.false_eq_true, false_iff, true_iff, iff_true, iff_false, Bool.not_eq_true]; omega) | (simp_all; done) | (simp_all; omega) | grind
  first | refine TC.condD rfl (fun hc14 => ?_) (fun hc14 => ?_) | refine TC.condN rfl (fun hc14 => ?_) (fun hc14 => ?_) | refine TC.cond rfl (fun hc14 => ?_) (fun hc14 => ?_)
  · try dsimp only at hc14
    refine TC.seq ?_; refine TC.region ?_; refine TL.run1 (pure_call (known_spec) .nil Try.call13) rfl ?_; refine TL.run1 (pure_assign rfl) rfl ?_; refine TL.nil' ?_; refine TC.ret ?_; refine then_ret ?_
    exact ret_bool rfl (by first | rfl | simp | simp_all)
  · try dsimp only at hc14
    have hs : SmallP l := Classical.not_not.1 hc14
    obtain ⟨hl24, hsm⟩ := hs
    have hl : l.length ≤ 1000000 := by omega
    have hn : ∀ i, i < l.length → (yAt l i).name.size ≤ 1000000000 := fun i hi => by have := (hsm i hi).2; omega
    have hp : ∀ i, i < l.length → (yAt l i).props.length ≤ 1000000 := fun i hi => by have := (hsm i hi).1; omega
    have hfr := findS_range l id
    have hnil : (encP []).length = 0 := rfl
    refine TC.skip' ?_; refine TC.seq ?_; refine TC.region ?_; refine TL.run1 (pure_move rfl) rfl ?_; refine TL.run1 (pure_move rfl) rfl ?_; refine TL.run1 (pure_call (SEffective_spec l id hl hn hp) (.cons rfl (.cons rfl .nil)) Try.call32) rfl ?_; refine TL.run1 (pure_move rfl) rfl ?_; refine TL.run1 (pure_extract rfl rfl) rfl ?_; refine TL.run1 (pure_extract rfl rfl) rfl ?_; refine TL.run1 (pure_assign rfl) rfl ?_; refine TL.run1 (pure_assign rfl) rfl ?_; refine TL.nil' ?_; refine TC.seq ?_; refine TC.region ?_; refine TL.run1 (pure_move rfl) rfl ?_; refine TL.run1 (pure_call (R8Check_spec l hl hn hp) (.cons rfl .nil) Try.call16) rfl ?_; refine TL.run1 (pure_assign rfl) rfl ?_; refine TL.nil' ?_; refine TC.seq ?_; refine TC.regionCut [24, 25, 26, 27, 28, 29, 30, 31] 31 (checkS l = 0 ∧ ¬ 0 ≤ findS l id) ?_ ?_
    · skip
      refine TL.run1 (pure_move rfl) rfl ?_; refine TL.run1 (pure_eql rfl rfl) rfl ?_; refine TL.run1 (pure_move rfl) rfl ?_
      first | refine TL.splitP 26 rfl (fun hg26 => ?_) (fun hg26 => ?_) | refine TL.split 26 rfl (fun hg26 => ?_) (fun hg26 => ?_)
      · try dsimp only at hg26
        refine TL.runG rfl rfl (pure_move rfl) rfl ?_; refine TL.runG rfl rfl (pure_move rfl) rfl ?_; refine TL.runG rfl rfl (pure_call (RFind_spec l id hl) (.cons rfl (.cons rfl .nil)) Try.call26) rfl ?_; refine TL.runG rfl rfl (pure_lss rfl rfl) rfl ?_; refine TL.run1 (pure_pick_true rfl rfl) rfl ?_; refine TL.cutEnd (by repeat (first | exact Same.refl _ _ | refine Same.put rfl ?_)) rfl ?_
        first | (simp only [decide_eq_true_eq, Bool.false_eq_true, false_iff, true_iff, iff_true, iff_false, Bool.not_eq_true]; omega) | (simp_all; done) | (simp_all; omega) | grind
      · try dsimp only at hg26
        refine TL.passG rfl rfl rfl rfl ?_; refine TL.passG rfl rfl rfl rfl ?_; refine TL.passG rfl rfl rfl rfl ?_; refine TL.passG rfl rfl rfl rfl ?_; refine TL.run1 (pure_pick_false rfl rfl) rfl ?_; refine TL.cutEnd (by repeat (first | exact Same.refl _ _ | refine Same.put rfl ?_)) rfl ?_
        first | (simp only [decide_eq_true_eq, Bool.false_eq_true, false_iff, true_iff, iff_true, iff_false, Bool.not_eq_true]; omega) | (simp_all; done) | (simp_all; omega) | grind
    first | refine TC.condD rfl (fun hc31 => ?_) (fun hc31 => ?_) | refine TC.condN rfl (fun hc31 => ?_) (fun hc31 => ?_) | refine TC.cond rfl (fun hc31 => ?_) (fun hc31 => ?_)
    · try dsimp only at hc31
      have hE : foundE l id = 8 := by (unfold foundE; rw [if_neg (by simp [hc31.1]), if_neg hc31.2])
      have hV : effV l id = [] := by (unfold effV; rw [hE, if_neg (by decide)])
      rw [hV, hE]
      refine TC.region ?_; refine TL.run1 (pure_assign rfl) rfl ?_; refine TL.nil' ?_; refine TC.seq ?_; refine TC.seq ?_; refine TC.region ?_; refine TL.run1 (pure_move rfl) rfl ?_; refine TL.run1 (pure_neq rfl rfl) rfl ?_; refine TL.nil' ?_
      first | refine TC.condD rfl (fun hc33 => ?_) (fun hc33 => ?_) | refine TC.condN rfl (fun hc33 => ?_) (fun hc33 => ?_) | refine TC.cond rfl (fun hc33 => ?_) (fun hc33 => ?_)
      · try dsimp only at hc33
        refine TC.regionCut [34, 35, 36, 37, 38, 39, 40, 41, 4] 4 (True) ?_ ?_
        · skip
          refine TL.run1 (pure_move rfl) rfl ?_
          first | refine TL.run1 (pure_len Ty.sl26 rfl) rfl ?_ | refine TL.run1 (pure_len_row Ty.sl26 rfl (by repeat (first | exact List.Mem.head _ | apply List.Mem.tail))) rfl ?_ | refine TL.run1 (pure_len_nil Ty.sl26 rfl) rfl ?_
          refine TL.run1 (pure_eql rfl rfl) rfl ?_; refine TL.run1 (pure_move rfl) rfl ?_
          first | refine TL.splitP 37 rfl (fun hg37 => ?_) (fun hg37 => ?_) | refine TL.split 37 rfl (fun hg37 => ?_) (fun hg37 => ?_)
          · try dsimp only at hg37
            refine TL.runG rfl rfl (pure_move rfl) rfl ?_; refine TL.runG rfl rfl (pure_move rfl) rfl ?_; refine TL.runG rfl rfl (pure_eql rfl rfl) rfl ?_; refine TL.run1 (pure_pick_true rfl rfl) rfl ?_; refine TL.run1 (pure_assign rfl) rfl ?_; refine TL.cutEnd (by repeat (first | exact Same.refl _ _ | refine Same.put rfl ?_)) rfl ?_
            first | (simp only [decide_eq_true_eq, Bool.false_eq_true, false_iff, true_iff, iff_true, iff_false, Bool.not_eq_true]; omega) | (simp_all; done) | (simp_all; omega) | grind
          · try dsimp only at hg37
            refine TL.passG rfl rfl rfl rfl ?_; refine TL.passG rfl rfl rfl rfl ?_; refine TL.passG rfl rfl rfl rfl ?_; refine TL.run1 (pure_pick_false rfl rfl) rfl ?_; refine TL.run1 (pure_assign rfl) rfl ?_; refine TL.cutEnd (by repeat (first | exact Same.refl _ _ | refine Same.put rfl ?_)) rfl ?_
            first | (simp only [decide_eq_true_eq, Bool.false_eq_true, false_iff, true_iff, iff_true, iff_false, Bool.not_eq_true]; omega) | (simp_all; done) | (simp_all; omega) | grind
        refine TC.ret ?_; refine then_ret ?_
        exact ret_bool rfl (by first | rfl | simp | simp_all)
      · try dsimp only at hc33
        exact absurd (by decide) hc33
    · try dsimp only at hc31
      refine TC.skip' ?_; refine TC.seq ?_; refine TC.seq ?_; refine TC.region ?_; refine TL.run1 (pure_move rfl) rfl ?_; refine TL.run1 (pure_neq rfl rfl) rfl ?_; refine TL.nil' ?_
      first | refine TC.condD rfl (fun hc33 => ?_) (fun hc33 => ?_) | refine TC.condN rfl (fun hc33 => ?_) (fun hc33 => ?_) | refine TC.cond rfl (fun hc33 => ?_) (fun hc33 => ?_)
      · try dsimp only at hc33
        have hE : foundE l id = checkS l := by (unfold foundE; rw [if_pos hc33])
        have hV : effV l id = [] := by (unfold effV; rw [hE, if_neg hc33])
        rw [hV, hE]
        refine TC.regionCut [34, 35, 36, 37, 38, 39, 40, 41, 4] 4 (True) ?_ ?_
        · skip
          refine TL.run1 (pure_move rfl) rfl ?_
          first | refine TL.run1 (pure_len Ty.sl26 rfl) rfl ?_ | refine TL.run1 (pure_len_row Ty.sl26 rfl (by repeat (first | exact List.Mem.head _ | apply List.Mem.tail))) rfl ?_ | refine TL.run1 (pure_len_nil Ty.sl26 rfl) rfl ?_
          refine TL.run1 (pure_eql rfl rfl) rfl ?_; refine TL.run1 (pure_move rfl) rfl ?_
          first | refine TL.splitP 37 rfl (fun hg37 => ?_) (fun hg37 => ?_) | refine TL.split 37 rfl (fun hg37 => ?_) (fun hg37 => ?_)
          · try dsimp only at hg37
            refine TL.runG rfl rfl (pure_move rfl) rfl ?_; refine TL.runG rfl rfl (pure_move rfl) rfl ?_; refine TL.runG rfl rfl (pure_eql rfl rfl) rfl ?_; refine TL.run1 (pure_pick_true rfl rfl) rfl ?_; refine TL.run1 (pure_assign rfl) rfl ?_; refine TL.cutEnd (by repeat (first | exact Same.refl _ _ | refine Same.put rfl ?_)) rfl ?_
            first | (simp only [decide_eq_true_eq, Bool.false_eq_true, false_iff, true_iff, iff_true, iff_false, Bool.not_eq_true]; omega) | (simp_all; done) | (simp_all; omega) | grind
          · try dsimp only at hg37
            refine TL.passG rfl rfl rfl rfl ?_; refine TL.passG rfl rfl rfl rfl ?_; refine TL.passG rfl rfl rfl rfl ?_; refine TL.run1 (pure_pick_false rfl rfl) rfl ?_; refine TL.run1 (pure_assign rfl) rfl ?_; refine TL.cutEnd (by repeat (first | exact Same.refl _ _ | refine Same.put rfl ?_)) rfl ?_
            first | (simp only [decide_eq_true_eq, Bool.false_eq_true, false_iff, true_iff, iff_true, iff_false, Bool.not_eq_true]; omega) | (simp_all; done) | (simp_all; omega) | grind
        refine TC.ret ?_; refine then_ret ?_
        exact ret_bool rfl (by first | rfl | simp | simp_all)
      · try dsimp only at hc33
        have hg := checkS_good.1 (Classical.not_not.1 hc33)
        have hfd : 0 ≤ findS l id := Classical.byContradiction fun h => hc31 ⟨Classical.not_not.1 hc33, h⟩
        have hE := foundE_is hg hfd
        have hV : effV l id = effP l id := by (unfold effV; rw [if_pos hE])
        rw [hV, hE]
        have hpe : (effP l id).length ≤ 1000000 := by (have := (hg.effP (.inr hfd)).len; omega)
        refine TC.skip' ?_; refine TC.regionCut [42, 43, 44, 45, 46, 47, 48, 49, 50, 4] 4 (True) ?_ ?_
        · skip
          refine TL.run1 (pure_move rfl) rfl ?_; refine TL.run1 (pure_eql rfl rfl) rfl ?_; refine TL.run1 (pure_move rfl) rfl ?_
          first | refine TL.splitP 44 rfl (fun hg44 => ?_) (fun hg44 => ?_) | refine TL.split 44 rfl (fun hg44 => ?_) (fun hg44 => ?_)
          · try dsimp only at hg44
            refine TL.runG rfl rfl (pure_move rfl) rfl ?_; refine TL.runG rfl rfl (pure_move rfl) rfl ?_; refine TL.runG rfl rfl (pure_move rfl) rfl ?_; refine TL.runG rfl rfl (pure_call (R8Eff l id hg (.inr hfd)) (.cons rfl (.cons rfl .nil)) Try.call33) rfl ?_; refine TL.runG rfl rfl (pure_call (EqualProps_spec (effP l id) (effP l id) hpe) (.cons rfl (.cons rfl .nil)) Try.call23) rfl ?_; refine TL.run1 (pure_pick_true rfl rfl) rfl ?_; refine TL.run1 (pure_assign rfl) rfl ?_; refine TL.cutEnd (by repeat (first | exact Same.refl _ _ | refine Same.put rfl ?_)) rfl ?_
            first | (simp only [decide_eq_true_eq, Bool.false_eq_true, false_iff, true_iff, iff_true, iff_false, Bool.not_eq_true]; omega) | (simp_all; done) | (simp_all; omega) | grind
          · try dsimp only at hg44
            refine TL.passG rfl rfl rfl rfl ?_; refine TL.passG rfl rfl rfl rfl ?_; refine TL.passG rfl rfl rfl rfl ?_; refine TL.passG rfl rfl rfl rfl ?_; refine TL.passG rfl rfl rfl rfl ?_; refine TL.run1 (pure_pick_false rfl rfl) rfl ?_; refine TL.run1 (pure_assign rfl) rfl ?_; refine TL.cutEnd (by repeat (first | exact Same.refl _ _ | refine Same.put rfl ?_)) rfl ?_
            first | (simp only [decide_eq_true_eq, Bool.false_eq_true, false_iff, true_iff, iff_true, iff_false, Bool.not_eq_true]; omega) | (simp_all; done) | (simp_all; omega) | grind
        refine TC.ret ?_
        exact ret_bool rfl (by first | rfl | simp | simp_all)

theorem paraV_len (l : List Sty) (ow : List (Int × Int)) (hg : Good l) : (paraV l ow).length ≤ 1000000 := by
  unfold paraV
  split
  · rename_i h
    obtain ⟨_, h2, h3⟩ := paraE_ok h
    have h4 := hg.effP (namE_find h3)
    have h5 := checkP_good (by omega) (by omega) h2
    have := ((h4.merge h5).grp 2).len; omega
  · simp
theorem textV_len (l : List Sty) (pa ow : List (Int × Int)) (hg : Good l) : (textV l pa ow).length ≤ 1000000 := by
  unfold textV
  split
  · rename_i h
    obtain ⟨_, h2, h3, h4, h5⟩ := textE_ok h
    have h6 := hg.effP (namE_find h4)
    have h7 := hg.effP (namE_find h5)
    have h8 := checkP_good (by omega) (by omega) h3
    have := (((h6.merge h7).merge h8).grp 1).len; omega
  · simp
set_option maxHeartbeats 1000000 in
set_option maxRecDepth 100000 in
theorem StylesheetResolves_spec (l : List Sty) (pa ow : List (Int × Int)) (hlal : l.length ≤ 9223372036854775807) : Fun Try.prog 7 [.sl 6 (encSs l), .sl 2 (encP pa), .sl 2 (encP ow)] (.v (.bool true)) := by
  refine Fun.enter (n := 100) (rs := [.tmp 6]) Try.func7 rfl Try.ntmps7 Try.results7 rfl (fun w F => ?_)
  have hkp := encP_len pa
  have hko := encP_len ow
  have hnil : (encP []).length = 0 := rfl
  refine TC.seq ?_; refine TC.region ?_; refine TL.run1 (pure_assign rfl) rfl ?_; refine TL.nil' ?_; refine TC.seq ?_; refine TC.regionCut [16, 17, 18, 19, 20, 21, 22, 23, 24, 25, 26, 27, 28, 29, 30, 31, 32] 32 (¬ SmallP l ∨ 50 < ((pa.length : Nat) : Int) ∨ 50 < ((ow.length : Nat) : Int)) ?_ ?_
  · skip
    refine TL.run1 (pure_call (known_spec) .nil Try.call13) rfl ?_; refine TL.run1 (pure_not rfl) rfl ?_; refine TL.run1 (pure_move rfl) rfl ?_
    first | refine TL.splitP 18 rfl (fun hg18 => ?_) (fun hg18 => ?_) | refine TL.split 18 rfl (fun hg18 => ?_) (fun hg18 => ?_)
    · try dsimp only at hg18
      refine TL.passG rfl rfl rfl rfl ?_; refine TL.passG rfl rfl rfl rfl ?_; refine TL.passG rfl rfl rfl rfl ?_; refine TL.run1 (pure_pick_true rfl rfl) rfl ?_; refine TL.run1 (pure_move rfl) rfl ?_; refine TL.passG rfl rfl rfl rfl ?_; refine TL.passG rfl rfl rfl rfl ?_; refine TL.passG rfl rfl rfl rfl ?_; refine TL.run1 (pure_pick_true rfl rfl) rfl ?_; refine TL.run1 (pure_move rfl) rfl ?_; refine TL.passG rfl rfl rfl rfl ?_; refine TL.passG rfl rfl rfl rfl ?_; refine TL.passG rfl rfl rfl rfl ?_; refine TL.run1 (pure_pick_true rfl rfl) rfl ?_; refine TL.cutEnd (by repeat (first | exact Same.refl _ _ | refine Same.put rfl ?_)) rfl ?_
      first | (simp only [decide_eq_true_eq, Bool.false_eq_true, false_iff, true_iff, iff_true, iff_false, Bool.not_eq_true]; omega) | (simp_all; done) | (simp_all; omega) | grind
    · try dsimp only at hg18
      refine TL.runG rfl rfl (pure_move rfl) rfl ?_; refine TL.runG rfl rfl (pure_call (Small_spec l hlal) (.cons rfl .nil) Try.call14) rfl ?_; refine TL.runG rfl rfl (pure_not rfl) rfl ?_; refine TL.run1 (pure_pick_false rfl rfl) rfl ?_; refine TL.run1 (pure_move rfl) rfl ?_
      first | refine TL.splitP 23 rfl (fun hg23 => ?_) (fun hg23 => ?_) | refine TL.split 23 rfl (fun hg23 => ?_) (fun hg23 => ?_)
      · try dsimp only at hg23
        refine TL.passG rfl rfl rfl rfl ?_; refine TL.passG rfl rfl rfl rfl ?_; refine TL.passG rfl rfl rfl rfl ?_; refine TL.run1 (pure_pick_true rfl rfl) rfl ?_; refine TL.run1 (pure_move rfl) rfl ?_; refine TL.passG rfl rfl rfl rfl ?_; refine TL.passG rfl rfl rfl rfl ?_; refine TL.passG rfl rfl rfl rfl ?_; refine TL.run1 (pure_pick_true rfl rfl) rfl ?_; refine TL.cutEnd (by repeat (first | exact Same.refl _ _ | refine Same.put rfl ?_)) rfl ?_
        first | (simp only [decide_eq_true_eq, Bool.false_eq_true, false_iff, true_iff, iff_true, iff_false, Bool.not_eq_true]; omega) | (simp_all; done) | (simp_all; omega) | grind
      · try dsimp only at hg23
        refine TL.runG rfl rfl (pure_move rfl) rfl ?_
        first | refine TL.runG rfl rfl (pure_len Ty.sl26 rfl) rfl ?_ | refine TL.runG rfl rfl (pure_len_row Ty.sl26 rfl (by repeat (first | exact List.Mem.head _ | apply List.Mem.tail))) rfl ?_ | refine TL.runG rfl rfl (pure_len_nil Ty.sl26 rfl) rfl ?_
        refine TL.runG rfl rfl (pure_gtr rfl rfl) rfl ?_; refine TL.run1 (pure_pick_false rfl rfl) rfl ?_; refine TL.run1 (pure_move rfl) rfl ?_
        first | refine TL.splitP 28 rfl (fun hg28 => ?_) (fun hg28 => ?_) | refine TL.split 28 rfl (fun hg28 => ?_) (fun hg28 => ?_)
        · try dsimp only at hg28
          refine TL.passG rfl rfl rfl rfl ?_; refine TL.passG rfl rfl rfl rfl ?_; refine TL.passG rfl rfl rfl rfl ?_; refine TL.run1 (pure_pick_true rfl rfl) rfl ?_; refine TL.cutEnd (by repeat (first | exact Same.refl _ _ | refine Same.put rfl ?_)) rfl ?_
          first | (simp only [decide_eq_true_eq, Bool.false_eq_true, false_iff, true_iff, iff_true, iff_false, Bool.not_eq_true]; omega) | (simp_all; done) | (simp_all; omega) | grind
        · try dsimp only at hg28
          refine TL.runG rfl rfl (pure_move rfl) rfl ?_
          first | refine TL.runG rfl rfl (pure_len Ty.sl26 rfl) rfl ?_ | refine TL.runG rfl rfl (pure_len_row Ty.sl26 rfl (by repeat (first | exact List.Mem.head _ | apply List.Mem.tail))) rfl ?_ | refine TL.runG rfl rfl (pure_len_nil Ty.sl26 rfl) rfl ?_
          refine TL.runG rfl rfl (pure_gtr rfl rfl) rfl ?_; refine TL.run1 (pure_pick_false rfl rfl) rfl ?_; refine TL.cutEnd (by repeat (first | exact Same.refl _ _ | refine Same.put rfl ?_)) rfl ?_
          first | (simp only [decide_eq_true_eq, Bool.false_eq_true, false_iff, true_iff, iff_true, iff_false, Bool.not_eq_true]; omega) | (simp_all; done) | (simp_all; omega) | grind
  first | refine TC.condD rfl (fun hc32 => ?_) (fun hc32 => ?_) | refine TC.condN rfl (fun hc32 => ?_) (fun hc32 => ?_) | refine TC.cond rfl (fun hc32 => ?_) (fun hc32 => ?_)
  · try dsimp only at hc32
    refine TC.seq ?_; refine TC.region ?_; refine TL.run1 (pure_call (known_spec) .nil Try.call13) rfl ?_; refine TL.run1 (pure_assign rfl) rfl ?_; refine TL.nil' ?_; refine TC.ret ?_; refine then_ret ?_
    exact ret_bool rfl (by first | rfl | simp | simp_all)
  · try dsimp only at hc32
    have hs : SmallP l := Classical.byContradiction fun h => hc32 (.inl h)
    have hpa : pa.length ≤ 1000000 := by omega
    have how : ow.length ≤ 1000000 := by omega
    obtain ⟨hl24, hsm⟩ := hs
    have hl : l.length ≤ 1000000 := by omega
    have hn : ∀ i, i < l.length → (yAt l i).name.size ≤ 1000000000 := fun i hi => by have := (hsm i hi).2; omega
    have hp : ∀ i, i < l.length → (yAt l i).props.length ≤ 1000000 := fun i hi => by have := (hsm i hi).1; omega
    refine TC.skip' ?_; refine TC.seq ?_; refine TC.region ?_; refine TL.run1 (pure_move rfl) rfl ?_; refine TL.run1 (pure_move rfl) rfl ?_; refine TL.run1 (pure_call (SPara_spec l pa hl hn hp hpa) (.cons rfl (.cons rfl .nil)) Try.call29) rfl ?_; refine TL.run1 (pure_move rfl) rfl ?_; refine TL.run1 (pure_extract rfl rfl) rfl ?_; refine TL.run1 (pure_extract rfl rfl) rfl ?_; refine TL.run1 (pure_assign rfl) rfl ?_; refine TL.run1 (pure_assign rfl) rfl ?_; refine TL.nil' ?_; refine TC.seq ?_; refine TC.region ?_; refine TL.run1 (pure_move rfl) rfl ?_; refine TL.run1 (pure_move rfl) rfl ?_; refine TL.run1 (pure_move rfl) rfl ?_; refine TL.run1 (pure_call (SText_spec l pa ow hl hn hp hpa how) (.cons rfl (.cons rfl (.cons rfl .nil))) Try.call19) rfl ?_; refine TL.run1 (pure_move rfl) rfl ?_; refine TL.run1 (pure_extract rfl rfl) rfl ?_; refine TL.run1 (pure_extract rfl rfl) rfl ?_; refine TL.run1 (pure_assign rfl) rfl ?_; refine TL.run1 (pure_assign rfl) rfl ?_; refine TL.nil' ?_; refine TC.seq ?_; refine TC.seq ?_; refine TC.region ?_; refine TL.run1 (pure_move rfl) rfl ?_; refine TL.run1 (pure_call (R8Check_spec l hl hn hp) (.cons rfl .nil) Try.call16) rfl ?_; refine TL.run1 (pure_assign rfl) rfl ?_; refine TL.nil' ?_; refine TC.seq ?_; refine TC.region ?_; refine TL.run1 (pure_move rfl) rfl ?_; refine TL.run1 (pure_neq rfl rfl) rfl ?_; refine TL.nil' ?_
    first | refine TC.condD rfl (fun hc50 => ?_) (fun hc50 => ?_) | refine TC.condN rfl (fun hc50 => ?_) (fun hc50 => ?_) | refine TC.cond rfl (fun hc50 => ?_) (fun hc50 => ?_)
    · try dsimp only at hc50
      have hE1 : paraE l pa = checkS l := by (unfold paraE; rw [if_pos hc50])
      have hE2 : textE l pa ow = checkS l := by (unfold textE; rw [if_pos hc50])
      have hV1 : paraV l pa = [] := paraV_bad (by rw [hE1]; exact hc50)
      have hV2 : textV l pa ow = [] := textV_bad (by rw [hE2]; exact hc50)
      rw [hE1, hE2, hV1, hV2]
      refine TC.regionCut [51, 52, 53, 54, 55, 56, 57, 58, 59, 60, 61, 62, 63, 64, 65, 66, 67, 68, 6] 6 (True) ?_ ?_
      · skip
        refine TL.run1 (pure_move rfl) rfl ?_
        first | refine TL.run1 (pure_len Ty.sl26 rfl) rfl ?_ | refine TL.run1 (pure_len_row Ty.sl26 rfl (by repeat (first | exact List.Mem.head _ | apply List.Mem.tail))) rfl ?_ | refine TL.run1 (pure_len_nil Ty.sl26 rfl) rfl ?_
        refine TL.run1 (pure_eql rfl rfl) rfl ?_; refine TL.run1 (pure_move rfl) rfl ?_
        first | refine TL.splitP 54 rfl (fun hg54 => ?_) (fun hg54 => ?_) | refine TL.split 54 rfl (fun hg54 => ?_) (fun hg54 => ?_)
        · try dsimp only at hg54
          refine TL.runG rfl rfl (pure_move rfl) rfl ?_; refine TL.runG rfl rfl (pure_move rfl) rfl ?_; refine TL.runG rfl rfl (pure_eql rfl rfl) rfl ?_; refine TL.run1 (pure_pick_true rfl rfl) rfl ?_; refine TL.run1 (pure_move rfl) rfl ?_
          first | refine TL.splitP 59 rfl (fun hg59 => ?_) (fun hg59 => ?_) | refine TL.split 59 rfl (fun hg59 => ?_) (fun hg59 => ?_)
          · try dsimp only at hg59
            refine TL.runG rfl rfl (pure_move rfl) rfl ?_
            first | refine TL.runG rfl rfl (pure_len Ty.sl26 rfl) rfl ?_ | refine TL.runG rfl rfl (pure_len_row Ty.sl26 rfl (by repeat (first | exact List.Mem.head _ | apply List.Mem.tail))) rfl ?_ | refine TL.runG rfl rfl (pure_len_nil Ty.sl26 rfl) rfl ?_
            refine TL.runG rfl rfl (pure_eql rfl rfl) rfl ?_; refine TL.run1 (pure_pick_true rfl rfl) rfl ?_; refine TL.run1 (pure_move rfl) rfl ?_
            first | refine TL.splitP 64 rfl (fun hg64 => ?_) (fun hg64 => ?_) | refine TL.split 64 rfl (fun hg64 => ?_) (fun hg64 => ?_)
            · try dsimp only at hg64
              refine TL.runG rfl rfl (pure_move rfl) rfl ?_; refine TL.runG rfl rfl (pure_move rfl) rfl ?_; refine TL.runG rfl rfl (pure_eql rfl rfl) rfl ?_; refine TL.run1 (pure_pick_true rfl rfl) rfl ?_; refine TL.run1 (pure_assign rfl) rfl ?_; refine TL.cutEnd (by repeat (first | exact Same.refl _ _ | refine Same.put rfl ?_)) rfl ?_
              first | (simp only [decide_eq_true_eq, Bool.false_eq_true, false_iff, true_iff, iff_true, iff_false, Bool.not_eq_true]; omega) | (simp_all; done) | (simp_all; omega) | grind
            · try dsimp only at hg64
              refine TL.passG rfl rfl rfl rfl ?_; refine TL.passG rfl rfl rfl rfl ?_; refine TL.passG rfl rfl rfl rfl ?_; refine TL.run1 (pure_pick_false rfl rfl) rfl ?_; refine TL.run1 (pure_assign rfl) rfl ?_; refine TL.cutEnd (by repeat (first | exact Same.refl _ _ | refine Same.put rfl ?_)) rfl ?_
              first | (simp only [decide_eq_true_eq, Bool.false_eq_true, false_iff, true_iff, iff_true, iff_false, Bool.not_eq_true]; omega) | (simp_all; done) | (simp_all; omega) | grind
          · try dsimp only at hg59
            refine TL.passG rfl rfl rfl rfl ?_; refine TL.passG rfl rfl rfl rfl ?_; refine TL.passG rfl rfl rfl rfl ?_; refine TL.run1 (pure_pick_false rfl rfl) rfl ?_; refine TL.run1 (pure_move rfl) rfl ?_; refine TL.passG rfl rfl rfl rfl ?_; refine TL.passG rfl rfl rfl rfl ?_; refine TL.passG rfl rfl rfl rfl ?_; refine TL.run1 (pure_pick_false rfl rfl) rfl ?_; refine TL.run1 (pure_assign rfl) rfl ?_; refine TL.cutEnd (by repeat (first | exact Same.refl _ _ | refine Same.put rfl ?_)) rfl ?_
            first | (simp only [decide_eq_true_eq, Bool.false_eq_true, false_iff, true_iff, iff_true, iff_false, Bool.not_eq_true]; omega) | (simp_all; done) | (simp_all; omega) | grind
        · try dsimp only at hg54
          refine TL.passG rfl rfl rfl rfl ?_; refine TL.passG rfl rfl rfl rfl ?_; refine TL.passG rfl rfl rfl rfl ?_; refine TL.run1 (pure_pick_false rfl rfl) rfl ?_; refine TL.run1 (pure_move rfl) rfl ?_; refine TL.passG rfl rfl rfl rfl ?_; refine TL.passG rfl rfl rfl rfl ?_; refine TL.passG rfl rfl rfl rfl ?_; refine TL.run1 (pure_pick_false rfl rfl) rfl ?_; refine TL.run1 (pure_move rfl) rfl ?_; refine TL.passG rfl rfl rfl rfl ?_; refine TL.passG rfl rfl rfl rfl ?_; refine TL.passG rfl rfl rfl rfl ?_; refine TL.run1 (pure_pick_false rfl rfl) rfl ?_; refine TL.run1 (pure_assign rfl) rfl ?_; refine TL.cutEnd (by repeat (first | exact Same.refl _ _ | refine Same.put rfl ?_)) rfl ?_
          first | (simp only [decide_eq_true_eq, Bool.false_eq_true, false_iff, true_iff, iff_true, iff_false, Bool.not_eq_true]; omega) | (simp_all; done) | (simp_all; omega) | grind
      refine TC.ret ?_; refine then_ret ?_
      exact ret_bool rfl (by first | rfl | simp | simp_all)
    · try dsimp only at hc50
      have hg := checkS_good.1 (Classical.not_not.1 hc50)
      have hq1 := paraV_len l pa hg
      have hq2 := textV_len l pa ow hg
      refine TC.skip' ?_; refine TC.seq ?_; refine TC.region ?_; refine TL.run1 (pure_move rfl) rfl ?_; refine TL.run1 (pure_move rfl) rfl ?_; refine TL.run1 (pure_call (RPara_spec l pa hg hpa) (.cons rfl (.cons rfl .nil)) Try.call30) rfl ?_; refine TL.run1 (pure_move rfl) rfl ?_; refine TL.run1 (pure_extract rfl rfl) rfl ?_; refine TL.run1 (pure_extract rfl rfl) rfl ?_; refine TL.run1 (pure_assign rfl) rfl ?_; refine TL.run1 (pure_assign rfl) rfl ?_; refine TL.nil' ?_; refine TC.seq ?_; refine TC.region ?_; refine TL.run1 (pure_move rfl) rfl ?_; refine TL.run1 (pure_move rfl) rfl ?_; refine TL.run1 (pure_move rfl) rfl ?_; refine TL.run1 (pure_call (RText_spec l pa ow hg hpa how) (.cons rfl (.cons rfl (.cons rfl .nil))) Try.call31) rfl ?_; refine TL.run1 (pure_move rfl) rfl ?_; refine TL.run1 (pure_extract rfl rfl) rfl ?_; refine TL.run1 (pure_extract rfl rfl) rfl ?_; refine TL.run1 (pure_assign rfl) rfl ?_; refine TL.run1 (pure_assign rfl) rfl ?_; refine TL.nil' ?_; refine TC.regionCut [82, 83, 84, 85, 86, 87, 88, 89, 90, 91, 92, 93, 94, 95, 96, 97, 98, 99, 6] 6 (True) ?_ ?_
      · skip
        refine TL.run1 (pure_move rfl) rfl ?_; refine TL.run1 (pure_move rfl) rfl ?_
        first | refine TL.run1 (pure_call (EqualProps_spec (paraV l pa) (paraV l pa) hq1) (.cons rfl (.cons rfl .nil)) Try.call23) rfl ?_ | refine TL.run1 (pure_call (EqualProps_spec (textV l pa ow) (textV l pa ow) hq2) (.cons rfl (.cons rfl .nil)) Try.call23) rfl ?_
        refine TL.run1 (pure_move rfl) rfl ?_
        first | refine TL.splitP 85 rfl (fun hg85 => ?_) (fun hg85 => ?_) | refine TL.split 85 rfl (fun hg85 => ?_) (fun hg85 => ?_)
        · try dsimp only at hg85
          refine TL.runG rfl rfl (pure_move rfl) rfl ?_; refine TL.runG rfl rfl (pure_move rfl) rfl ?_; refine TL.runG rfl rfl (pure_eql rfl rfl) rfl ?_; refine TL.run1 (pure_pick_true rfl rfl) rfl ?_; refine TL.run1 (pure_move rfl) rfl ?_
          first | refine TL.splitP 90 rfl (fun hg90 => ?_) (fun hg90 => ?_) | refine TL.split 90 rfl (fun hg90 => ?_) (fun hg90 => ?_)
          · try dsimp only at hg90
            refine TL.runG rfl rfl (pure_move rfl) rfl ?_; refine TL.runG rfl rfl (pure_move rfl) rfl ?_
            first | refine TL.runG rfl rfl (pure_call (EqualProps_spec (paraV l pa) (paraV l pa) hq1) (.cons rfl (.cons rfl .nil)) Try.call23) rfl ?_ | refine TL.runG rfl rfl (pure_call (EqualProps_spec (textV l pa ow) (textV l pa ow) hq2) (.cons rfl (.cons rfl .nil)) Try.call23) rfl ?_
            refine TL.run1 (pure_pick_true rfl rfl) rfl ?_; refine TL.run1 (pure_move rfl) rfl ?_
            first | refine TL.splitP 95 rfl (fun hg95 => ?_) (fun hg95 => ?_) | refine TL.split 95 rfl (fun hg95 => ?_) (fun hg95 => ?_)
            · try dsimp only at hg95
              refine TL.runG rfl rfl (pure_move rfl) rfl ?_; refine TL.runG rfl rfl (pure_move rfl) rfl ?_; refine TL.runG rfl rfl (pure_eql rfl rfl) rfl ?_; refine TL.run1 (pure_pick_true rfl rfl) rfl ?_; refine TL.run1 (pure_assign rfl) rfl ?_; refine TL.cutEnd (by repeat (first | exact Same.refl _ _ | refine Same.put rfl ?_)) rfl ?_
              first | (simp only [decide_eq_true_eq, Bool.false_eq_true, false_iff, true_iff, iff_true, iff_false, Bool.not_eq_true]; omega) | (simp_all; done) | (simp_all; omega) | grind
            · try dsimp only at hg95
              refine TL.passG rfl rfl rfl rfl ?_; refine TL.passG rfl rfl rfl rfl ?_; refine TL.passG rfl rfl rfl rfl ?_; refine TL.run1 (pure_pick_false rfl rfl) rfl ?_; refine TL.run1 (pure_assign rfl) rfl ?_; refine TL.cutEnd (by repeat (first | exact Same.refl _ _ | refine Same.put rfl ?_)) rfl ?_
              first | (simp only [decide_eq_true_eq, Bool.false_eq_true, false_iff, true_iff, iff_true, iff_false, Bool.not_eq_true]; omega) | (simp_all; done) | (simp_all; omega) | grind
          · try dsimp only at hg90
            refine TL.passG rfl rfl rfl rfl ?_; refine TL.passG rfl rfl rfl rfl ?_; refine TL.passG rfl rfl rfl rfl ?_; refine TL.run1 (pure_pick_false rfl rfl) rfl ?_; refine TL.run1 (pure_move rfl) rfl ?_; refine TL.passG rfl rfl rfl rfl ?_; refine TL.passG rfl rfl rfl rfl ?_; refine TL.passG rfl rfl rfl rfl ?_; refine TL.run1 (pure_pick_false rfl rfl) rfl ?_; refine TL.run1 (pure_assign rfl) rfl ?_; refine TL.cutEnd (by repeat (first | exact Same.refl _ _ | refine Same.put rfl ?_)) rfl ?_
            first | (simp only [decide_eq_true_eq, Bool.false_eq_true, false_iff, true_iff, iff_true, iff_false, Bool.not_eq_true]; omega) | (simp_all; done) | (simp_all; omega) | grind
        · try dsimp only at hg85
          refine TL.passG rfl rfl rfl rfl ?_; refine TL.passG rfl rfl rfl rfl ?_; refine TL.passG rfl rfl rfl rfl ?_; refine TL.run1 (pure_pick_false rfl rfl) rfl ?_; refine TL.run1 (pure_move rfl) rfl ?_; refine TL.passG rfl rfl rfl rfl ?_; refine TL.passG rfl rfl rfl rfl ?_; refine TL.passG rfl rfl rfl rfl ?_; refine TL.run1 (pure_pick_false rfl rfl) rfl ?_; refine TL.run1 (pure_move rfl) rfl ?_; refine TL.passG rfl rfl rfl rfl ?_; refine TL.passG rfl rfl rfl rfl ?_; refine TL.passG rfl rfl rfl rfl ?_; refine TL.run1 (pure_pick_false rfl rfl) rfl ?_; refine TL.run1 (pure_assign rfl) rfl ?_; refine TL.cutEnd (by repeat (first | exact Same.refl _ _ | refine Same.put rfl ?_)) rfl ?_
          first | (simp only [decide_eq_true_eq, Bool.false_eq_true, false_iff, true_iff, iff_true, iff_false, Bool.not_eq_true]; omega) | (simp_all; done) | (simp_all; omega) | grind
      refine TC.ret ?_
      exact ret_bool rfl (by first | rfl | simp | simp_all)
end Go.Ob
