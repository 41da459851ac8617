import Derived.Test.YtkmgogabbefonaaDoorE6
set_option linter.unusedVariables false
set_option linter.unusedSimpArgs false
namespace Go.Ob
open Go.Proofs
set_option maxHeartbeats 1000000 in
set_option maxRecDepth 100000 in
theorem lkern_spec (f : Fo) (a b : ByteArray) (hf : ¬ FBad f) (hab : a.size + b.size ≤ 1000000000) : Fun Tryd.prog 23 [.agg [.v (.int .i64 f.face), .v (.int .i64 f.size), .v (.int .i64 f.raise), .v (.bool f.bold)], .v (.string a), .v (.string b)] (.v (.int .i64 (krL f a b))) := by
  refine Fun.enter (n := 61) (rs := [.tmp 6]) Tryd.func23 rfl Tryd.ntmps23 Tryd.results23 rfl (fun w F => ?_)
  have hf0 := hf
  unfold FBad at hf
  have hs1 := scP_range (n := 80) hf0 (by omega) (by omega)
  have hs2 := scP_range (n := 60) hf0 (by omega) (by omega)
  have hw8 : wideL.length = 8 := rfl
  have hw17 : smallL.length = 17 := rfl
  have hkw := encT_len wideL
  have hks := encT_len smallL
  refine TC.seq ?_
  refine TC.region ?_
  refine TL.box rfl (.agg _) rfl (fun g3 => ?_)
  refine TL.run1 (pure_assign rfl) rfl ?_
  refine TL.nil' ?_
  refine TC.seq ?_
  refine TC.seq ?_
  refine TC.region ?_
  first | refine TL.run1 (pure_fieldAddr Ty.f23_0 rfl (.zero _) (List.cons_ne_nil _ _)) rfl ?_ | refine TL.run1 (pure_fieldAddr_own Ty.f23_0 rfl) rfl ?_
  first | refine TL.run1 (pure_load1 Ty.one3 rfl) rfl ?_ | refine TL.run1 (pure_load1_own Ty.one3 rfl (by repeat (first | exact List.Mem.head _ | apply List.Mem.tail)) (by repeat (first | exact DropR.zero _ | apply DropR.succ))) rfl ?_
  refine TL.run1 (pure_rem rfl rfl (by omega) (by omega)) rfl ?_
  refine TL.run1 (pure_eql rfl rfl) rfl ?_
  refine TL.nil' ?_
  first | refine TC.condD rfl (fun hc14 => ?_) (fun hc14 => ?_) | refine TC.condN rfl (fun hc14 => ?_) (fun hc14 => ?_) | refine TC.cond rfl (fun hc14 => ?_) (fun hc14 => ?_)
  · try dsimp only at hc14
    refine TC.seq ?_
    refine TC.region ?_
    refine TL.run1 (pure_assign rfl) rfl ?_
    refine TL.nil' ?_
    refine TC.ret ?_
    refine then_ret ?_
    exact ret_int rfl (krL_odd hc14).symm
  · try dsimp only at hc14
    refine TC.skip' ?_
    refine TC.seq ?_
    refine TC.region ?_
    refine TL.run1 (pure_buildSlice (xs := [.const (.string ⟨#[65, 86]⟩), .const (.string ⟨#[86, 65]⟩), .const (.string ⟨#[65, 87]⟩), .const (.string ⟨#[87, 65]⟩), .const (.string ⟨#[65, 84]⟩), .const (.string ⟨#[84, 65]⟩), .const (.string ⟨#[65, 89]⟩), .const (.string ⟨#[89, 65]⟩)]) Ty.app29 (by decide) rfl rfl (.cons rfl (.one rfl) rfl (.cons rfl (.one rfl) rfl (.cons rfl (.one rfl) rfl (.cons rfl (.one rfl) rfl (.cons rfl (.one rfl) rfl (.cons rfl (.one rfl) rfl (.cons rfl (.one rfl) rfl (.cons rfl (.one rfl) rfl .nil))))))))) rfl ?_
    refine TL.run1 (pure_assign rfl) rfl ?_
    refine TL.nil' ?_
    refine TC.seq ?_
    refine TC.region ?_
    refine TL.run1 (pure_buildSlice (xs := [.const (.string ⟨#[84, 111]⟩), .const (.string ⟨#[84, 97]⟩), .const (.string ⟨#[84, 101]⟩), .const (.string ⟨#[84, 114]⟩), .const (.string ⟨#[86, 111]⟩), .const (.string ⟨#[86, 97]⟩), .const (.string ⟨#[86, 101]⟩), .const (.string ⟨#[89, 111]⟩), .const (.string ⟨#[89, 97]⟩), .const (.string ⟨#[89, 101]⟩), .const (.string ⟨#[76, 84]⟩), .const (.string ⟨#[76, 86]⟩), .const (.string ⟨#[76, 89]⟩), .const (.string ⟨#[80, 44]⟩), .const (.string ⟨#[80, 46]⟩), .const (.string ⟨#[70, 44]⟩), .const (.string ⟨#[70, 46]⟩)]) Ty.app29 (by decide) rfl rfl (.cons rfl (.one rfl) rfl (.cons rfl (.one rfl) rfl (.cons rfl (.one rfl) rfl (.cons rfl (.one rfl) rfl (.cons rfl (.one rfl) rfl (.cons rfl (.one rfl) rfl (.cons rfl (.one rfl) rfl (.cons rfl (.one rfl) rfl (.cons rfl (.one rfl) rfl (.cons rfl (.one rfl) rfl (.cons rfl (.one rfl) rfl (.cons rfl (.one rfl) rfl (.cons rfl (.one rfl) rfl (.cons rfl (.one rfl) rfl (.cons rfl (.one rfl) rfl (.cons rfl (.one rfl) rfl (.cons rfl (.one rfl) rfl .nil)))))))))))))))))) rfl ?_
    refine TL.run1 (pure_assign rfl) rfl ?_
    refine TL.nil' ?_
    refine TC.seq ?_
    refine TC.seq ?_
    refine TC.region ?_
    refine TL.run1 (pure_assign rfl) rfl ?_
    refine TL.nil' ?_
    refine TC.block ?_
    refine TC.loopX (X := Nat) (fun i => [(1, .v (.string a)), (2, .v (.string b)), (3, .v (.pointer (some ⟨g3, 0, none⟩))), (7, .sl 1 (encT wideL)), (8, .sl 1 (encT smallL)), (9, .v (.int .i64 i))]) (fun i => [.box g3 23 [.v (.int .i64 f.face), .v (.int .i64 f.size), .v (.int .i64 f.raise), .v (.bool f.bold)]]) (fun i => (i ≤ wideL.length) ∧ (∀ j : Nat, j < i → ¬ (tAt wideL j = a ++ b ∧ (a.size : Int) = 1))) (fun i => wideL.length - i) (0) ⟨by skip; repeat (first | exact Agree.nil | refine Agree.cons rfl ?_), by skip; repeat (first | exact List.nil_sublist _ | exact List.Sublist.refl _ | apply List.Sublist.cons_cons | apply List.Sublist.cons)⟩ ?_ ?_
    · skip
      exact ⟨Nat.zero_le _, fun j h => by omega⟩
    intro i
    rintro ⟨h1, h2⟩
    show TC _ _ _ (Env.of [(1, .v (.string a)), (2, .v (.string b)), (3, .v (.pointer (some ⟨g3, 0, none⟩))), (7, .sl 1 (encT wideL)), (8, .sl 1 (encT smallL)), (9, .v (.int .i64 i))]) [.box g3 23 [.v (.int .i64 f.face), .v (.int .i64 f.size), .v (.int .i64 f.raise), .v (.bool f.bold)]]
    refine TC.seq ?_
    refine TC.seq ?_
    refine TC.region ?_
    refine TL.run1 (pure_move rfl) rfl ?_
    refine TL.run1 (pure_move rfl) rfl ?_
    first | refine TL.run1 (pure_len Ty.sl29 rfl) rfl ?_ | refine TL.run1 (pure_len_row Ty.sl29 rfl (by repeat (first | exact List.Mem.head _ | apply List.Mem.tail))) rfl ?_ | refine TL.run1 (pure_len_nil Ty.sl29 rfl) rfl ?_
    refine TL.run1 (pure_lss rfl rfl) rfl ?_
    refine TL.nil' ?_
    first | refine TC.condD rfl (fun hc20 => ?_) (fun hc20 => ?_) | refine TC.condN rfl (fun hc20 => ?_) (fun hc20 => ?_) | refine TC.cond rfl (fun hc20 => ?_) (fun hc20 => ?_)
    · try dsimp only at hc20
      refine TC.skip' ?_
      refine TC.seq ?_
      refine TC.block ?_
      have hrow : (encT wideL)[((i : Nat) : Int).toNat]? = some [.v (.string (tAt wideL i))] := encT_get wideL i (by omega) (by omega)
      refine TC.regionCut [23, 24, 25, 26, 27, 28, 29, 30, 31, 32, 33, 34, 35] 35 (tAt wideL i = a ++ b ∧ (a.size : Int) = 1) ?_ ?_
      · skip
        refine TL.run1 (pure_move rfl) rfl ?_
        refine TL.run1 (pure_move rfl) rfl ?_
        refine TL.run1 (pure_indexAddr Ty.sl29 rfl rfl (by omega) (by assumption) (List.cons_ne_nil _ _)) rfl ?_
        first | refine TL.run1 (pure_load1 Ty.one9 rfl) rfl ?_ | refine TL.run1 (pure_load1_own Ty.one9 rfl (by repeat (first | exact List.Mem.head _ | apply List.Mem.tail)) (by repeat (first | exact DropR.zero _ | apply DropR.succ))) rfl ?_
        refine TL.run1 (pure_move rfl) rfl ?_
        refine TL.run1 (pure_move rfl) rfl ?_
        refine TL.run1 (pure_add_string rfl rfl (by omega)) rfl ?_
        refine TL.run1 (pure_eql_string rfl rfl) rfl ?_
        refine TL.run1 (pure_move rfl) rfl ?_
        first | refine TL.splitP 31 rfl (fun hg31 => ?_) (fun hg31 => ?_) | refine TL.split 31 rfl (fun hg31 => ?_) (fun hg31 => ?_)
        · try dsimp only at hg31
          refine TL.runG rfl rfl (pure_move rfl) rfl ?_
          refine TL.runG rfl rfl (pure_len_str Tryd.underlying9 rfl) rfl ?_
          refine TL.runG rfl rfl (pure_eql rfl rfl) rfl ?_
          refine TL.run1 (pure_pick_true rfl rfl) rfl ?_
          refine TL.cutEnd (by repeat (first | exact Same.refl _ _ | refine Same.put rfl ?_)) rfl ?_
          first | (simp only [decide_eq_true_eq, Bool.false_eq_true, false_iff, true_iff, iff_true, iff_false, Bool.not_eq_true]; omega) | (simp_all; done) | (simp_all; omega) | grind
        · try dsimp only at hg31
          refine TL.passG rfl rfl rfl rfl ?_
          refine TL.passG rfl rfl rfl rfl ?_
          refine TL.passG rfl rfl rfl rfl ?_
          refine TL.run1 (pure_pick_false rfl rfl) rfl ?_
          refine TL.cutEnd (by repeat (first | exact Same.refl _ _ | refine Same.put rfl ?_)) rfl ?_
          first | (simp only [decide_eq_true_eq, Bool.false_eq_true, false_iff, true_iff, iff_true, iff_false, Bool.not_eq_true]; omega) | (simp_all; done) | (simp_all; omega) | grind
      first | refine TC.condD rfl (fun hc35 => ?_) (fun hc35 => ?_) | refine TC.condN rfl (fun hc35 => ?_) (fun hc35 => ?_) | refine TC.cond rfl (fun hc35 => ?_) (fun hc35 => ?_)
      · try dsimp only at hc35
        refine TC.seq ?_
        refine TC.region ?_
        first | refine TL.run1 (pure_load Ty.agg23 rfl (.succ (.succ (.succ (.succ (.zero _)))))) rfl ?_ | refine TL.run1 (pure_load_own Ty.agg23 rfl (by repeat (first | exact List.Mem.head _ | apply List.Mem.tail)) (by repeat (first | exact DropR.zero _ | apply DropR.succ)) (.succ (.succ (.succ (.succ (.zero _)))))) rfl ?_
        first | refine TL.run1 (pure_call (scale_spec f 80 hf0 (by omega) (by omega)) (.cons rfl (.cons rfl .nil)) Tryd.call37) rfl ?_ | refine TL.run1 (pure_call (scale_spec f 60 hf0 (by omega) (by omega)) (.cons rfl (.cons rfl .nil)) Tryd.call37) rfl ?_
        refine TL.run1 (pure_neg rfl (mkI64 (by omega) (by omega))) rfl ?_
        refine TL.run1 (pure_assign rfl) rfl ?_
        refine TL.nil' ?_
        refine TC.ret ?_
        refine block_ret ?_
        refine then_ret ?_
        refine loop_ret ?_
        refine block_ret ?_
        refine then_ret ?_
        have hkk : kK (a ++ b) = 80 := kK_wide (by rw [← hc35.1]; exact tAt_mem wideL i (by omega) (by omega))
        exact ret_int rfl (krL_even hc14 (by omega) hkk (by omega)).symm
      · try dsimp only at hc35
        refine TC.skip ?_
        refine block_normal ?_
        refine then_normal ?_
        refine TC.region ?_
        refine TL.run1 (pure_move rfl) rfl ?_
        refine TL.run1 (pure_add rfl rfl (mkI64 (by omega) (by omega))) rfl ?_
        refine TL.run1 (pure_assign rfl) rfl ?_
        refine TL.nil ?_
        refine loop_next (i + 1) ⟨by ((try dsimp only); rw [show (((i + 1 : Nat)) : Int) = (i : Int) + 1 by omega]; repeat (first | exact Agree.nil | refine Agree.cons rfl ?_)), by repeat (first | exact List.nil_sublist _ | exact List.Sublist.refl _ | apply List.Sublist.cons_cons | apply List.Sublist.cons)⟩ ⟨by omega, fun j h => by rcases Nat.lt_or_eq_of_le (Nat.le_of_lt_succ h) with h | h; exact h2 j h; rw [h]; exact hc35⟩ (by omega)
    · try dsimp only at hc20
      refine TC.exit ?_
      refine then_exit ?_
      refine loop_exit ?_
      refine block_here ?_
      refine then_normal ?_
      refine TC.seq ?_
      refine TC.seq ?_
      have hno : ∀ j : Nat, j < wideL.length → ¬ (tAt wideL j = a ++ b ∧ (a.size : Int) = 1) := fun j hj => h2 j (by omega)
      clear h1 h2
      refine TC.region ?_
      refine TL.run1 (pure_assign rfl) rfl ?_
      refine TL.nil' ?_
      refine TC.block ?_
      refine TC.loopX (X := Nat) (fun i => [(1, .v (.string a)), (2, .v (.string b)), (3, .v (.pointer (some ⟨g3, 0, none⟩))), (8, .sl 1 (encT smallL)), (10, .v (.int .i64 i))]) (fun i => [.box g3 23 [.v (.int .i64 f.face), .v (.int .i64 f.size), .v (.int .i64 f.raise), .v (.bool f.bold)]]) (fun i => (i ≤ smallL.length) ∧ (∀ j : Nat, j < i → ¬ (tAt smallL j = a ++ b ∧ (a.size : Int) = 1))) (fun i => smallL.length - i) (0) ⟨by skip; repeat (first | exact Agree.nil | refine Agree.cons rfl ?_), by skip; repeat (first | exact List.nil_sublist _ | exact List.Sublist.refl _ | apply List.Sublist.cons_cons | apply List.Sublist.cons)⟩ ?_ ?_
      · skip
        exact ⟨Nat.zero_le _, fun j h => by omega⟩
      intro i
      rintro ⟨h1, h2⟩
      show TC _ _ _ (Env.of [(1, .v (.string a)), (2, .v (.string b)), (3, .v (.pointer (some ⟨g3, 0, none⟩))), (8, .sl 1 (encT smallL)), (10, .v (.int .i64 i))]) [.box g3 23 [.v (.int .i64 f.face), .v (.int .i64 f.size), .v (.int .i64 f.raise), .v (.bool f.bold)]]
      refine TC.seq ?_
      refine TC.seq ?_
      refine TC.region ?_
      refine TL.run1 (pure_move rfl) rfl ?_
      refine TL.run1 (pure_move rfl) rfl ?_
      first | refine TL.run1 (pure_len Ty.sl29 rfl) rfl ?_ | refine TL.run1 (pure_len_row Ty.sl29 rfl (by repeat (first | exact List.Mem.head _ | apply List.Mem.tail))) rfl ?_ | refine TL.run1 (pure_len_nil Ty.sl29 rfl) rfl ?_
      refine TL.run1 (pure_lss rfl rfl) rfl ?_
      refine TL.nil' ?_
      first | refine TC.condD rfl (fun hc42 => ?_) (fun hc42 => ?_) | refine TC.condN rfl (fun hc42 => ?_) (fun hc42 => ?_) | refine TC.cond rfl (fun hc42 => ?_) (fun hc42 => ?_)
      · try dsimp only at hc42
        refine TC.skip' ?_
        refine TC.seq ?_
        refine TC.block ?_
        have hrow : (encT smallL)[((i : Nat) : Int).toNat]? = some [.v (.string (tAt smallL i))] := encT_get smallL i (by omega) (by omega)
        refine TC.regionCut [45, 46, 47, 48, 49, 50, 51, 52, 53, 54, 55, 56, 57] 57 (tAt smallL i = a ++ b ∧ (a.size : Int) = 1) ?_ ?_
        · skip
          refine TL.run1 (pure_move rfl) rfl ?_
          refine TL.run1 (pure_move rfl) rfl ?_
          refine TL.run1 (pure_indexAddr Ty.sl29 rfl rfl (by omega) (by assumption) (List.cons_ne_nil _ _)) rfl ?_
          first | refine TL.run1 (pure_load1 Ty.one9 rfl) rfl ?_ | refine TL.run1 (pure_load1_own Ty.one9 rfl (by repeat (first | exact List.Mem.head _ | apply List.Mem.tail)) (by repeat (first | exact DropR.zero _ | apply DropR.succ))) rfl ?_
          refine TL.run1 (pure_move rfl) rfl ?_
          refine TL.run1 (pure_move rfl) rfl ?_
          refine TL.run1 (pure_add_string rfl rfl (by omega)) rfl ?_
          refine TL.run1 (pure_eql_string rfl rfl) rfl ?_
          refine TL.run1 (pure_move rfl) rfl ?_
          first | refine TL.splitP 53 rfl (fun hg53 => ?_) (fun hg53 => ?_) | refine TL.split 53 rfl (fun hg53 => ?_) (fun hg53 => ?_)
          · try dsimp only at hg53
            refine TL.runG rfl rfl (pure_move rfl) rfl ?_
            refine TL.runG rfl rfl (pure_len_str Tryd.underlying9 rfl) rfl ?_
            refine TL.runG rfl rfl (pure_eql rfl rfl) rfl ?_
            refine TL.run1 (pure_pick_true rfl rfl) rfl ?_
            refine TL.cutEnd (by repeat (first | exact Same.refl _ _ | refine Same.put rfl ?_)) rfl ?_
            first | (simp only [decide_eq_true_eq, Bool.false_eq_true, false_iff, true_iff, iff_true, iff_false, Bool.not_eq_true]; omega) | (simp_all; done) | (simp_all; omega) | grind
          · try dsimp only at hg53
            refine TL.passG rfl rfl rfl rfl ?_
            refine TL.passG rfl rfl rfl rfl ?_
            refine TL.passG rfl rfl rfl rfl ?_
            refine TL.run1 (pure_pick_false rfl rfl) rfl ?_
            refine TL.cutEnd (by repeat (first | exact Same.refl _ _ | refine Same.put rfl ?_)) rfl ?_
            first | (simp only [decide_eq_true_eq, Bool.false_eq_true, false_iff, true_iff, iff_true, iff_false, Bool.not_eq_true]; omega) | (simp_all; done) | (simp_all; omega) | grind
        first | refine TC.condD rfl (fun hc57 => ?_) (fun hc57 => ?_) | refine TC.condN rfl (fun hc57 => ?_) (fun hc57 => ?_) | refine TC.cond rfl (fun hc57 => ?_) (fun hc57 => ?_)
        · try dsimp only at hc57
          refine TC.seq ?_
          refine TC.region ?_
          first | refine TL.run1 (pure_load Ty.agg23 rfl (.succ (.succ (.succ (.succ (.zero _)))))) rfl ?_ | refine TL.run1 (pure_load_own Ty.agg23 rfl (by repeat (first | exact List.Mem.head _ | apply List.Mem.tail)) (by repeat (first | exact DropR.zero _ | apply DropR.succ)) (.succ (.succ (.succ (.succ (.zero _)))))) rfl ?_
          first | refine TL.run1 (pure_call (scale_spec f 80 hf0 (by omega) (by omega)) (.cons rfl (.cons rfl .nil)) Tryd.call37) rfl ?_ | refine TL.run1 (pure_call (scale_spec f 60 hf0 (by omega) (by omega)) (.cons rfl (.cons rfl .nil)) Tryd.call37) rfl ?_
          refine TL.run1 (pure_neg rfl (mkI64 (by omega) (by omega))) rfl ?_
          refine TL.run1 (pure_assign rfl) rfl ?_
          refine TL.nil' ?_
          refine TC.ret ?_
          refine block_ret ?_
          refine then_ret ?_
          refine loop_ret ?_
          refine block_ret ?_
          refine then_ret ?_
          by_cases hw : (a ++ b) ∈ wideL
          · obtain ⟨j, hj, he⟩ := tAt_wide hw
            exact absurd ⟨he, hc57.2⟩ (hno j hj)
          have hkk : kK (a ++ b) = 60 := kK_small hw (by rw [← hc57.1]; exact tAt_mem smallL i (by omega) (by omega))
          exact ret_int rfl (krL_even hc14 (by omega) hkk (by omega)).symm
        · try dsimp only at hc57
          refine TC.skip ?_
          refine block_normal ?_
          refine then_normal ?_
          refine TC.region ?_
          refine TL.run1 (pure_move rfl) rfl ?_
          refine TL.run1 (pure_add rfl rfl (mkI64 (by omega) (by omega))) rfl ?_
          refine TL.run1 (pure_assign rfl) rfl ?_
          refine TL.nil ?_
          refine loop_next (i + 1) ⟨by ((try dsimp only); rw [show (((i + 1 : Nat)) : Int) = (i : Int) + 1 by omega]; repeat (first | exact Agree.nil | refine Agree.cons rfl ?_)), by repeat (first | exact List.nil_sublist _ | exact List.Sublist.refl _ | apply List.Sublist.cons_cons | apply List.Sublist.cons)⟩ ⟨by omega, fun j h => by rcases Nat.lt_or_eq_of_le (Nat.le_of_lt_succ h) with h | h; exact h2 j h; rw [h]; exact hc57⟩ (by omega)
      · try dsimp only at hc42
        refine TC.exit ?_
        refine then_exit ?_
        refine loop_exit ?_
        refine block_here ?_
        refine then_normal ?_
        refine TC.seq ?_
        refine TC.region ?_
        refine TL.run1 (pure_assign rfl) rfl ?_
        refine TL.nil' ?_
        refine TC.ret ?_
        have hq : krL f a b = 0 := krL_other (by (by_cases h1 : a.size = 1; exact .inr ⟨fun hw => (by obtain ⟨j, hj, he⟩ := tAt_wide hw; exact hno j hj ⟨he, by omega⟩), fun hw => (by obtain ⟨j, hj, he⟩ := tAt_wide hw; exact h2 j (by omega) ⟨he, by omega⟩)⟩; exact .inl h1))
        exact ret_int rfl hq.symm
theorem offP_one (f : Fo) (l : List ByteArray) : (offP f l).take (0 + 1) = [0] := by
  rw [offP_take f l 0 (Nat.zero_le _)]; rfl
set_option maxRecDepth 100000 in
theorem offsets_spec (f : Fo) (s : ByteArray) (hf : ¬ FBad f) (hok : okS s = true) (hs : s.size ≤ 1000000) : Fun Tryd.prog 20 [.agg [.v (.int .i64 f.face), .v (.int .i64 f.size), .v (.int .i64 f.raise), .v (.bool f.bold)], .sl 1 (encT (cluV s))] (.sl 1 (encI (offP f (cluV s)))) := by
  refine Fun.enterF (n := 43) (rs := [.tmp 4]) Tryd.func20 rfl Tryd.ntmps20 Tryd.results20 rfl (fun w F => ?_)
  have hkl := encT_len (cluV s)
  have hcz := cluV_len s
  refine TC.seq ?_
  refine TC.region ?_
  refine TL.box rfl (.agg _) rfl (fun g2 => ?_)
  refine TL.run1 (pure_assign rfl) rfl ?_
  refine TL.nil' ?_
  refine TC.seq ?_
  refine TC.region ?_
  refine TL.buildRow (xs := [.const (.int .i64 0)]) Ty.app35 (by decide) rfl rfl (.cons rfl (.one rfl) rfl .nil) rfl (fun v8 hv8 => ?_)
  refine TL.run1 (pure_assign rfl) rfl ?_
  refine TL.nil' ?_
  refine TC.seq ?_
  refine TC.region ?_
  refine TL.run1 (pure_assign rfl) rfl ?_
  refine TL.nil' ?_
  refine TC.seq ?_
  refine TC.seq ?_
  refine TC.region ?_
  refine TL.run1 (pure_assign rfl) rfl ?_
  refine TL.nil' ?_
  refine TC.block ?_
  refine TC.loopX (X := Nat × Value) (fun (i, v) => [(1, .sl 1 (encT (cluV s))), (2, .v (.pointer (some ⟨g2, 0, none⟩))), (5, .v v), (6, .v (.int .i64 (wS f (cluV s) i))), (7, .v (.int .i64 i))]) (fun (i, v) => [.row v 3 1 (encI ((offP f (cluV s)).take (i + 1))), .box g2 23 [.v (.int .i64 f.face), .v (.int .i64 f.size), .v (.int .i64 f.raise), .v (.bool f.bold)]]) (fun (i, v) => (i ≤ (cluV s).length)) (fun (i, v) => (cluV s).length - i) (0, v8) ⟨by skip; repeat (first | exact Agree.nil | refine Agree.cons rfl ?_), by dsimp only; rw [offP_one f (cluV s)]; repeat (first | exact List.nil_sublist _ | exact List.Sublist.refl _ | apply List.Sublist.cons_cons | apply List.Sublist.cons)⟩ ?_ ?_
  · skip
    exact Nat.zero_le _
  rintro ⟨i, v⟩
  intro h1
  show TC _ _ _ (Env.of [(1, .sl 1 (encT (cluV s))), (2, .v (.pointer (some ⟨g2, 0, none⟩))), (5, .v v), (6, .v (.int .i64 (wS f (cluV s) i))), (7, .v (.int .i64 i))]) [.row v 3 1 (encI ((offP f (cluV s)).take (i + 1))), .box g2 23 [.v (.int .i64 f.face), .v (.int .i64 f.size), .v (.int .i64 f.raise), .v (.bool f.bold)]]
  have hwr := wS_range hf (cluV s) i
  have hkt := encI_len ((offP f (cluV s)).take (i + 1))
  have hlt : ((offP f (cluV s)).take (i + 1)).length ≤ i + 1 := by rw [List.length_take]; omega
  refine TC.seq ?_
  refine TC.seq ?_
  refine TC.region ?_
  refine TL.run1 (pure_move rfl) rfl ?_
  refine TL.run1 (pure_move rfl) rfl ?_
  first | refine TL.run1 (pure_len Ty.sl29 rfl) rfl ?_ | refine TL.run1 (pure_len_row Ty.sl29 rfl (by repeat (first | exact List.Mem.head _ | apply List.Mem.tail))) rfl ?_ | refine TL.run1 (pure_len_nil Ty.sl29 rfl) rfl ?_
  refine TL.run1 (pure_lss rfl rfl) rfl ?_
  refine TL.nil' ?_
  first | refine TC.condD rfl (fun hc12 => ?_) (fun hc12 => ?_) | refine TC.condN rfl (fun hc12 => ?_) (fun hc12 => ?_) | refine TC.cond rfl (fun hc12 => ?_) (fun hc12 => ?_)
  · try dsimp only at hc12
    refine TC.skip' ?_
    refine TC.seq ?_
    refine TC.block ?_
    refine TC.seq ?_
    refine TC.seq ?_
    have hrow : (encT (cluV s))[((i : Nat) : Int).toNat]? = some [.v (.string (tAt (cluV s) i))] := encT_get (cluV s) i (by omega) (by omega)
    have hck := clu_mem hok (tAt_mem (cluV s) i (by omega) (by omega))
    have hwi := widP_range hf (tAt (cluV s) i)
    refine TC.region ?_
    refine TL.run1 (pure_move rfl) rfl ?_
    refine TL.run1 (pure_gtr rfl rfl) rfl ?_
    refine TL.nil' ?_
    first | refine TC.condD rfl (fun hc16 => ?_) (fun hc16 => ?_) | refine TC.condN rfl (fun hc16 => ?_) (fun hc16 => ?_) | refine TC.cond rfl (fun hc16 => ?_) (fun hc16 => ?_)
    · try dsimp only at hc16
      have hrow2 : (encT (cluV s))[((i : Int) - 1).toNat]? = some [.v (.string (tAt (cluV s) ((i : Int) - 1)))] := encT_get (cluV s) ((i : Int) - 1) (by omega) (by omega)
      have hcj := clu_mem hok (tAt_mem (cluV s) ((i : Int) - 1) (by omega) (by omega))
      have hkq : krL f (tAt (cluV s) ((i : Int) - 1)) (tAt (cluV s) i) = krP f (tAt (cluV s) ((i : Int) - 1)) (tAt (cluV s) i) := krL_eq hcj.2.2 hck.2.2
      have hkr := krP_range hf (tAt (cluV s) ((i : Int) - 1)) (tAt (cluV s) i)
      refine TC.draw Ty.follows (by kernel_rfl) ?_
      refine TD.run1 (pure_move rfl) rfl ?_
      first | refine TD.run1 (pure_load Ty.agg23 rfl (.succ (.succ (.succ (.succ (.zero _)))))) rfl ?_ | refine TD.run1 (pure_load_own Ty.agg23 rfl (by repeat (first | exact List.Mem.head _ | apply List.Mem.tail)) (by repeat (first | exact DropR.zero _ | apply DropR.succ)) (.succ (.succ (.succ (.succ (.zero _)))))) rfl ?_
      refine TD.run1 (pure_move rfl) rfl ?_
      refine TD.run1 (pure_move rfl) rfl ?_
      refine TD.run1 (pure_sub rfl rfl (mkI64 (by omega) (by omega))) rfl ?_
      refine TD.run1 (pure_indexAddr Ty.sl29 rfl rfl (by omega) hrow2 (List.cons_ne_nil _ _)) rfl ?_
      first | refine TD.run1 (pure_load1 Ty.one9 rfl) rfl ?_ | refine TD.run1 (pure_load1_own Ty.one9 rfl (by repeat (first | exact List.Mem.head _ | apply List.Mem.tail)) (by repeat (first | exact DropR.zero _ | apply DropR.succ))) rfl ?_
      refine TD.run1 (pure_move rfl) rfl ?_
      refine TD.run1 (pure_move rfl) rfl ?_
      refine TD.run1 (pure_indexAddr Ty.sl29 rfl rfl (by omega) hrow (List.cons_ne_nil _ _)) rfl ?_
      first | refine TD.run1 (pure_load1 Ty.one9 rfl) rfl ?_ | refine TD.run1 (pure_load1_own Ty.one9 rfl (by repeat (first | exact List.Mem.head _ | apply List.Mem.tail)) (by repeat (first | exact DropR.zero _ | apply DropR.succ))) rfl ?_
      refine TD.run1 (pure_call (lkern_spec f (tAt (cluV s) ((i : Int) - 1)) (tAt (cluV s) i) hf (by omega)) (.cons rfl (.cons rfl (.cons rfl .nil))) Tryd.call23) rfl ?_
      refine TD.run1 (pure_add rfl rfl (mkI64 (by omega) (by omega))) rfl ?_
      refine TD.run1 (pure_assign rfl) rfl ?_
      refine TD.nil' ?_
      refine TC.seq ?_
      refine TC.draw Ty.follows (by kernel_rfl) ?_
      refine TD.run1 (pure_move rfl) rfl ?_
      first | refine TD.run1 (pure_load Ty.agg23 rfl (.succ (.succ (.succ (.succ (.zero _)))))) rfl ?_ | refine TD.run1 (pure_load_own Ty.agg23 rfl (by repeat (first | exact List.Mem.head _ | apply List.Mem.tail)) (by repeat (first | exact DropR.zero _ | apply DropR.succ)) (.succ (.succ (.succ (.succ (.zero _)))))) rfl ?_
      refine TD.run1 (pure_move rfl) rfl ?_
      refine TD.run1 (pure_move rfl) rfl ?_
      refine TD.run1 (pure_indexAddr Ty.sl29 rfl rfl (by omega) (by assumption) (List.cons_ne_nil _ _)) rfl ?_
      first | refine TD.run1 (pure_load1 Ty.one9 rfl) rfl ?_ | refine TD.run1 (pure_load1_own Ty.one9 rfl (by repeat (first | exact List.Mem.head _ | apply List.Mem.tail)) (by repeat (first | exact DropR.zero _ | apply DropR.succ))) rfl ?_
      refine TD.run1 (pure_call (lwidth_spec f (tAt (cluV s) i) hf) (.cons rfl (.cons rfl .nil)) Tryd.call17) rfl ?_
      refine TD.run1 (pure_add rfl rfl (mkI64 (by omega) (by omega))) rfl ?_
      refine TD.run1 (pure_assign rfl) rfl ?_
      refine TD.nil' ?_
      refine TC.region ?_
      refine TL.run1 (pure_move rfl) rfl ?_
      refine TL.run1 (pure_move rfl) rfl ?_
      refine TL.run1 (pure_buildSlice (xs := [.tmp 39]) Ty.app35 (by decide) rfl rfl (.cons rfl (.one rfl) rfl .nil)) rfl ?_
      refine TL.append Ty.app35 rfl rfl (by intro _; repeat (first | exact UpdR.here _ | apply UpdR.there)) (by simp only [List.length_append, List.length_cons, List.length_nil]; omega) (by simp only [List.length_append, List.length_cons, List.length_nil]; omega) rfl (fun v41 hv41 => ?_)
      refine TL.run1 (pure_assign rfl) rfl ?_
      refine TL.nil ?_
      refine block_normal ?_
      refine then_normal ?_
      refine TC.region ?_
      refine TL.run1 (pure_move rfl) rfl ?_
      refine TL.run1 (pure_add rfl rfl (mkI64 (by omega) (by omega))) rfl ?_
      refine TL.run1 (pure_assign rfl) rfl ?_
      refine TL.nil ?_
      have hst : wS f (cluV s) (i + 1) = wS f (cluV s) i + krL f (tAt (cluV s) ((i : Int) - 1)) (tAt (cluV s) i) + widP f (tAt (cluV s) i) := by (rw [wS, if_neg (by omega), hkq]; omega)
      have htt := offP_take f (cluV s) (i + 1) (by omega)
      refine loop_next (i + 1, v41) ⟨by (dsimp only; rw [hst, show (((i + 1 : Nat)) : Int) = (i : Int) + 1 by omega]; repeat (first | exact Agree.nil | refine Agree.cons rfl ?_)), by dsimp only; rw [htt, encI_snoc, hst]; repeat (first | exact List.nil_sublist _ | exact List.Sublist.refl _ | apply List.Sublist.cons_cons | apply List.Sublist.cons)⟩ (show i + 1 ≤ _ by omega) (by dsimp only; omega)
    · try dsimp only at hc16
      refine TC.skip' ?_
      refine TC.seq ?_
      refine TC.draw Ty.follows (by kernel_rfl) ?_
      refine TD.run1 (pure_move rfl) rfl ?_
      first | refine TD.run1 (pure_load Ty.agg23 rfl (.succ (.succ (.succ (.succ (.zero _)))))) rfl ?_ | refine TD.run1 (pure_load_own Ty.agg23 rfl (by repeat (first | exact List.Mem.head _ | apply List.Mem.tail)) (by repeat (first | exact DropR.zero _ | apply DropR.succ)) (.succ (.succ (.succ (.succ (.zero _)))))) rfl ?_
      refine TD.run1 (pure_move rfl) rfl ?_
      refine TD.run1 (pure_move rfl) rfl ?_
      refine TD.run1 (pure_indexAddr Ty.sl29 rfl rfl (by omega) (by assumption) (List.cons_ne_nil _ _)) rfl ?_
      first | refine TD.run1 (pure_load1 Ty.one9 rfl) rfl ?_ | refine TD.run1 (pure_load1_own Ty.one9 rfl (by repeat (first | exact List.Mem.head _ | apply List.Mem.tail)) (by repeat (first | exact DropR.zero _ | apply DropR.succ))) rfl ?_
      refine TD.run1 (pure_call (lwidth_spec f (tAt (cluV s) i) hf) (.cons rfl (.cons rfl .nil)) Tryd.call17) rfl ?_
      refine TD.run1 (pure_add rfl rfl (mkI64 (by omega) (by omega))) rfl ?_
      refine TD.run1 (pure_assign rfl) rfl ?_
      refine TD.nil' ?_
      refine TC.region ?_
      refine TL.run1 (pure_move rfl) rfl ?_
      refine TL.run1 (pure_move rfl) rfl ?_
      refine TL.run1 (pure_buildSlice (xs := [.tmp 39]) Ty.app35 (by decide) rfl rfl (.cons rfl (.one rfl) rfl .nil)) rfl ?_
      refine TL.append Ty.app35 rfl rfl (by intro _; repeat (first | exact UpdR.here _ | apply UpdR.there)) (by simp only [List.length_append, List.length_cons, List.length_nil]; omega) (by simp only [List.length_append, List.length_cons, List.length_nil]; omega) rfl (fun v41 hv41 => ?_)
      refine TL.run1 (pure_assign rfl) rfl ?_
      refine TL.nil ?_
      refine block_normal ?_
      refine then_normal ?_
      refine TC.region ?_
      refine TL.run1 (pure_move rfl) rfl ?_
      refine TL.run1 (pure_add rfl rfl (mkI64 (by omega) (by omega))) rfl ?_
      refine TL.run1 (pure_assign rfl) rfl ?_
      refine TL.nil ?_
      have hst : wS f (cluV s) (i + 1) = wS f (cluV s) i + widP f (tAt (cluV s) i) := by (rw [wS, if_pos (by omega), krP_first hck.2.2]; omega)
      have htt := offP_take f (cluV s) (i + 1) (by omega)
      refine loop_next (i + 1, v41) ⟨by (dsimp only; rw [hst, show (((i + 1 : Nat)) : Int) = (i : Int) + 1 by omega]; repeat (first | exact Agree.nil | refine Agree.cons rfl ?_)), by dsimp only; rw [htt, encI_snoc, hst]; repeat (first | exact List.nil_sublist _ | exact List.Sublist.refl _ | apply List.Sublist.cons_cons | apply List.Sublist.cons)⟩ (show i + 1 ≤ _ by omega) (by dsimp only; omega)
  · try dsimp only at hc12
    refine TC.exit ?_
    refine then_exit ?_
    refine loop_exit ?_
    refine block_here ?_
    refine then_normal ?_
    refine TC.seq ?_
    refine TC.region ?_
    refine TL.run1 (pure_move rfl) rfl ?_
    refine TL.run1 (pure_assign rfl) rfl ?_
    refine TL.nil' ?_
    refine TC.ret ?_
    have hil : i = (cluV s).length := by omega
    exact retF_row rfl (by repeat (first | exact List.Mem.head _ | apply List.Mem.tail)) (by decide) (encI_each _) (by rw [hil, List.take_of_length_le (by rw [offP_len]; omega)])
end Go.Ob
