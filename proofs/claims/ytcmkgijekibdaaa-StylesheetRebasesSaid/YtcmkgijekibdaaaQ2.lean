import Derived.Test.YtcmkgijekibdaaaQ1
set_option linter.unusedVariables false
set_option linter.unusedSimpArgs false
namespace Go.Ob
open Go.Proofs

theorem sty_ext (x y : Sty) : x = y ↔ x.id = y.id ∧ x.kind = y.kind ∧ x.name = y.name ∧ x.base = y.base ∧ x.next = y.next ∧ x.props = y.props := by
  cases x; cases y; simp
instance (x y : Sty) : Decidable (x = y) := decidable_of_iff _ (sty_ext x y).symm
theorem stys_ext {a b : List Sty} (hl : a.length = b.length) (h : ∀ i, i < a.length → yAt a i = yAt b i) : a = b := by
  apply List.ext_getElem hl
  intro i h1 h2
  have := h i h1
  unfold yAt at this
  simpa [h1, h2] using this
set_option maxHeartbeats 1000000 in
set_option maxRecDepth 100000 in
theorem Eq1_spec (x y : Sty) (hl : x.props.length ≤ 1000000) : Fun Try.prog 61 [.agg [.v (.int .i64 x.id), .v (.int .i64 x.kind), .v (.string x.name), .v (.int .i64 x.base), .v (.int .i64 x.next), .sl 2 (encP x.props)], .agg [.v (.int .i64 y.id), .v (.int .i64 y.kind), .v (.string y.name), .v (.int .i64 y.base), .v (.int .i64 y.next), .sl 2 (encP y.props)]] (.v (.bool (decide (x = y)))) := by
  refine Fun.enter (n := 45) (rs := [.tmp 4]) Try.func61 rfl Try.ntmps61 Try.results61 rfl (fun w F => ?_)
  refine TC.seq ?_; refine TC.region ?_
  refine TL.box rfl (.agg _) rfl (fun g2 => ?_)
  refine TL.box rfl (.agg _) rfl (fun g3 => ?_)
  refine TL.run1 (pure_assign rfl) rfl ?_; refine TL.nil' ?_; refine TC.regionCut [5, 6, 7, 8, 9, 10, 11, 12, 13, 14, 15, 16, 17, 18, 19, 20, 21, 22, 23, 24, 25, 26, 27, 28, 29, 30, 31, 32, 33, 34, 35, 36, 37, 38, 39, 40, 41, 42, 43, 44, 4] 4 (x = y) ?_ ?_
  · skip
    first | refine TL.run1 (pure_fieldAddr Ty.f28_0 rfl (.zero _) (List.cons_ne_nil _ _)) rfl ?_ | refine TL.run1 (pure_fieldAddr_own Ty.f28_0 rfl) rfl ?_
    first | refine TL.run1 (pure_load1 Ty.one3 rfl) rfl ?_ | refine TL.run1 (pure_load1_own Ty.one3 rfl (by repeat (first | exact List.Mem.head _ | apply List.Mem.tail)) (by repeat (first | exact DropR.zero _ | apply DropR.succ))) rfl ?_
    first | refine TL.run1 (pure_fieldAddr Ty.f28_0 rfl (.zero _) (List.cons_ne_nil _ _)) rfl ?_ | refine TL.run1 (pure_fieldAddr_own Ty.f28_0 rfl) rfl ?_
    first | refine TL.run1 (pure_load1 Ty.one3 rfl) rfl ?_ | refine TL.run1 (pure_load1_own Ty.one3 rfl (by repeat (first | exact List.Mem.head _ | apply List.Mem.tail)) (by repeat (first | exact DropR.zero _ | apply DropR.succ))) rfl ?_
    refine TL.run1 (pure_eql rfl rfl) rfl ?_; refine TL.run1 (pure_move rfl) rfl ?_
    first | refine TL.splitP 10 rfl (fun hg10 => ?_) (fun hg10 => ?_) | refine TL.split 10 rfl (fun hg10 => ?_) (fun hg10 => ?_)
    · try dsimp only at hg10
      first | refine TL.runG rfl rfl (pure_fieldAddr Ty.f28_1 rfl (.succ (.zero _)) (List.cons_ne_nil _ _)) rfl ?_ | refine TL.runG rfl rfl (pure_fieldAddr_own Ty.f28_1 rfl) rfl ?_
      first | refine TL.runG rfl rfl (pure_load1 Ty.one3 rfl) rfl ?_ | refine TL.runG rfl rfl (pure_load1_own Ty.one3 rfl (by repeat (first | exact List.Mem.head _ | apply List.Mem.tail)) (by repeat (first | exact DropR.zero _ | apply DropR.succ))) rfl ?_
      first | refine TL.runG rfl rfl (pure_fieldAddr Ty.f28_1 rfl (.succ (.zero _)) (List.cons_ne_nil _ _)) rfl ?_ | refine TL.runG rfl rfl (pure_fieldAddr_own Ty.f28_1 rfl) rfl ?_
      first | refine TL.runG rfl rfl (pure_load1 Ty.one3 rfl) rfl ?_ | refine TL.runG rfl rfl (pure_load1_own Ty.one3 rfl (by repeat (first | exact List.Mem.head _ | apply List.Mem.tail)) (by repeat (first | exact DropR.zero _ | apply DropR.succ))) rfl ?_
      refine TL.runG rfl rfl (pure_eql rfl rfl) rfl ?_; refine TL.run1 (pure_pick_true rfl rfl) rfl ?_; refine TL.run1 (pure_move rfl) rfl ?_
      first | refine TL.splitP 17 rfl (fun hg17 => ?_) (fun hg17 => ?_) | refine TL.split 17 rfl (fun hg17 => ?_) (fun hg17 => ?_)
      · try dsimp only at hg17
        first | refine TL.runG rfl rfl (pure_fieldAddr Ty.f28_2 rfl (.succ (.succ (.zero _))) (List.cons_ne_nil _ _)) rfl ?_ | refine TL.runG rfl rfl (pure_fieldAddr_own Ty.f28_2 rfl) rfl ?_
        first | refine TL.runG rfl rfl (pure_load1 Ty.one9 rfl) rfl ?_ | refine TL.runG rfl rfl (pure_load1_own Ty.one9 rfl (by repeat (first | exact List.Mem.head _ | apply List.Mem.tail)) (by repeat (first | exact DropR.zero _ | apply DropR.succ))) rfl ?_
        first | refine TL.runG rfl rfl (pure_fieldAddr Ty.f28_2 rfl (.succ (.succ (.zero _))) (List.cons_ne_nil _ _)) rfl ?_ | refine TL.runG rfl rfl (pure_fieldAddr_own Ty.f28_2 rfl) rfl ?_
        first | refine TL.runG rfl rfl (pure_load1 Ty.one9 rfl) rfl ?_ | refine TL.runG rfl rfl (pure_load1_own Ty.one9 rfl (by repeat (first | exact List.Mem.head _ | apply List.Mem.tail)) (by repeat (first | exact DropR.zero _ | apply DropR.succ))) rfl ?_
        refine TL.runG rfl rfl (pure_eql_string rfl rfl) rfl ?_; refine TL.run1 (pure_pick_true rfl rfl) rfl ?_; refine TL.run1 (pure_move rfl) rfl ?_
        first | refine TL.splitP 24 rfl (fun hg24 => ?_) (fun hg24 => ?_) | refine TL.split 24 rfl (fun hg24 => ?_) (fun hg24 => ?_)
        · try dsimp only at hg24
          first | refine TL.runG rfl rfl (pure_fieldAddr Ty.f28_3 rfl (.succ (.succ (.succ (.zero _)))) (List.cons_ne_nil _ _)) rfl ?_ | refine TL.runG rfl rfl (pure_fieldAddr_own Ty.f28_3 rfl) rfl ?_
          first | refine TL.runG rfl rfl (pure_load1 Ty.one3 rfl) rfl ?_ | refine TL.runG rfl rfl (pure_load1_own Ty.one3 rfl (by repeat (first | exact List.Mem.head _ | apply List.Mem.tail)) (by repeat (first | exact DropR.zero _ | apply DropR.succ))) rfl ?_
          first | refine TL.runG rfl rfl (pure_fieldAddr Ty.f28_3 rfl (.succ (.succ (.succ (.zero _)))) (List.cons_ne_nil _ _)) rfl ?_ | refine TL.runG rfl rfl (pure_fieldAddr_own Ty.f28_3 rfl) rfl ?_
          first | refine TL.runG rfl rfl (pure_load1 Ty.one3 rfl) rfl ?_ | refine TL.runG rfl rfl (pure_load1_own Ty.one3 rfl (by repeat (first | exact List.Mem.head _ | apply List.Mem.tail)) (by repeat (first | exact DropR.zero _ | apply DropR.succ))) rfl ?_
          refine TL.runG rfl rfl (pure_eql rfl rfl) rfl ?_; refine TL.run1 (pure_pick_true rfl rfl) rfl ?_; refine TL.run1 (pure_move rfl) rfl ?_
          first | refine TL.splitP 31 rfl (fun hg31 => ?_) (fun hg31 => ?_) | refine TL.split 31 rfl (fun hg31 => ?_) (fun hg31 => ?_)
          · try dsimp only at hg31
            first | refine TL.runG rfl rfl (pure_fieldAddr Ty.f28_4 rfl (.succ (.succ (.succ (.succ (.zero _))))) (List.cons_ne_nil _ _)) rfl ?_ | refine TL.runG rfl rfl (pure_fieldAddr_own Ty.f28_4 rfl) rfl ?_
            first | refine TL.runG rfl rfl (pure_load1 Ty.one3 rfl) rfl ?_ | refine TL.runG rfl rfl (pure_load1_own Ty.one3 rfl (by repeat (first | exact List.Mem.head _ | apply List.Mem.tail)) (by repeat (first | exact DropR.zero _ | apply DropR.succ))) rfl ?_
            first | refine TL.runG rfl rfl (pure_fieldAddr Ty.f28_4 rfl (.succ (.succ (.succ (.succ (.zero _))))) (List.cons_ne_nil _ _)) rfl ?_ | refine TL.runG rfl rfl (pure_fieldAddr_own Ty.f28_4 rfl) rfl ?_
            first | refine TL.runG rfl rfl (pure_load1 Ty.one3 rfl) rfl ?_ | refine TL.runG rfl rfl (pure_load1_own Ty.one3 rfl (by repeat (first | exact List.Mem.head _ | apply List.Mem.tail)) (by repeat (first | exact DropR.zero _ | apply DropR.succ))) rfl ?_
            refine TL.runG rfl rfl (pure_eql rfl rfl) rfl ?_; refine TL.run1 (pure_pick_true rfl rfl) rfl ?_; refine TL.run1 (pure_move rfl) rfl ?_
            first | refine TL.splitP 38 rfl (fun hg38 => ?_) (fun hg38 => ?_) | refine TL.split 38 rfl (fun hg38 => ?_) (fun hg38 => ?_)
            · try dsimp only at hg38
              first | refine TL.runG rfl rfl (pure_fieldAddr Ty.f28_5 rfl (.succ (.succ (.succ (.succ (.succ (.zero _)))))) (List.cons_ne_nil _ _)) rfl ?_ | refine TL.runG rfl rfl (pure_fieldAddr_own Ty.f28_5 rfl) rfl ?_
              first | refine TL.runG rfl rfl (pure_load1 Ty.one26 rfl) rfl ?_ | refine TL.runG rfl rfl (pure_load1_own Ty.one26 rfl (by repeat (first | exact List.Mem.head _ | apply List.Mem.tail)) (by repeat (first | exact DropR.zero _ | apply DropR.succ))) rfl ?_
              first | refine TL.runG rfl rfl (pure_fieldAddr Ty.f28_5 rfl (.succ (.succ (.succ (.succ (.succ (.zero _)))))) (List.cons_ne_nil _ _)) rfl ?_ | refine TL.runG rfl rfl (pure_fieldAddr_own Ty.f28_5 rfl) rfl ?_
              first | refine TL.runG rfl rfl (pure_load1 Ty.one26 rfl) rfl ?_ | refine TL.runG rfl rfl (pure_load1_own Ty.one26 rfl (by repeat (first | exact List.Mem.head _ | apply List.Mem.tail)) (by repeat (first | exact DropR.zero _ | apply DropR.succ))) rfl ?_
              refine TL.runG rfl rfl (pure_call (Equal_spec x.props y.props hl) (.cons rfl (.cons rfl .nil)) Try.call62) rfl ?_; refine TL.run1 (pure_pick_true rfl rfl) rfl ?_; refine TL.run1 (pure_assign rfl) rfl ?_; refine TL.cutEnd (by repeat (first | exact Same.refl _ _ | refine Same.put rfl ?_)) rfl ?_
              first | (rw [sty_ext]; simp_all; done) | (rw [sty_ext]; grind)
            · try dsimp only at hg38
              refine TL.passG rfl rfl rfl rfl ?_; refine TL.passG rfl rfl rfl rfl ?_; refine TL.passG rfl rfl rfl rfl ?_; refine TL.passG rfl rfl rfl rfl ?_; refine TL.passG rfl rfl rfl rfl ?_; refine TL.run1 (pure_pick_false rfl rfl) rfl ?_; refine TL.run1 (pure_assign rfl) rfl ?_; refine TL.cutEnd (by repeat (first | exact Same.refl _ _ | refine Same.put rfl ?_)) rfl ?_
              first | (rw [sty_ext]; simp_all; done) | (rw [sty_ext]; grind)
          · try dsimp only at hg31
            refine TL.passG rfl rfl rfl rfl ?_; refine TL.passG rfl rfl rfl rfl ?_; refine TL.passG rfl rfl rfl rfl ?_; refine TL.passG rfl rfl rfl rfl ?_; refine TL.passG rfl rfl rfl rfl ?_; refine TL.run1 (pure_pick_false rfl rfl) rfl ?_; refine TL.run1 (pure_move rfl) rfl ?_; refine TL.passG rfl rfl rfl rfl ?_; refine TL.passG rfl rfl rfl rfl ?_; refine TL.passG rfl rfl rfl rfl ?_; refine TL.passG rfl rfl rfl rfl ?_; refine TL.passG rfl rfl rfl rfl ?_; refine TL.run1 (pure_pick_false rfl rfl) rfl ?_; refine TL.run1 (pure_assign rfl) rfl ?_; refine TL.cutEnd (by repeat (first | exact Same.refl _ _ | refine Same.put rfl ?_)) rfl ?_
            first | (rw [sty_ext]; simp_all; done) | (rw [sty_ext]; grind)
        · try dsimp only at hg24
          refine TL.passG rfl rfl rfl rfl ?_; refine TL.passG rfl rfl rfl rfl ?_; refine TL.passG rfl rfl rfl rfl ?_; refine TL.passG rfl rfl rfl rfl ?_; refine TL.passG rfl rfl rfl rfl ?_; refine TL.run1 (pure_pick_false rfl rfl) rfl ?_; refine TL.run1 (pure_move rfl) rfl ?_; refine TL.passG rfl rfl rfl rfl ?_; refine TL.passG rfl rfl rfl rfl ?_; refine TL.passG rfl rfl rfl rfl ?_; refine TL.passG rfl rfl rfl rfl ?_; refine TL.passG rfl rfl rfl rfl ?_; refine TL.run1 (pure_pick_false rfl rfl) rfl ?_; refine TL.run1 (pure_move rfl) rfl ?_; refine TL.passG rfl rfl rfl rfl ?_; refine TL.passG rfl rfl rfl rfl ?_; refine TL.passG rfl rfl rfl rfl ?_; refine TL.passG rfl rfl rfl rfl ?_; refine TL.passG rfl rfl rfl rfl ?_; refine TL.run1 (pure_pick_false rfl rfl) rfl ?_; refine TL.run1 (pure_assign rfl) rfl ?_; refine TL.cutEnd (by repeat (first | exact Same.refl _ _ | refine Same.put rfl ?_)) rfl ?_
          first | (rw [sty_ext]; simp_all; done) | (rw [sty_ext]; grind)
      · try dsimp only at hg17
        refine TL.passG rfl rfl rfl rfl ?_; refine TL.passG rfl rfl rfl rfl ?_; refine TL.passG rfl rfl rfl rfl ?_; refine TL.passG rfl rfl rfl rfl ?_; refine TL.passG rfl rfl rfl rfl ?_; refine TL.run1 (pure_pick_false rfl rfl) rfl ?_; refine TL.run1 (pure_move rfl) rfl ?_; refine TL.passG rfl rfl rfl rfl ?_; refine TL.passG rfl rfl rfl rfl ?_; refine TL.passG rfl rfl rfl rfl ?_; refine TL.passG rfl rfl rfl rfl ?_; refine TL.passG rfl rfl rfl rfl ?_; refine TL.run1 (pure_pick_false rfl rfl) rfl ?_; refine TL.run1 (pure_move rfl) rfl ?_; refine TL.passG rfl rfl rfl rfl ?_; refine TL.passG rfl rfl rfl rfl ?_; refine TL.passG rfl rfl rfl rfl ?_; refine TL.passG rfl rfl rfl rfl ?_; refine TL.passG rfl rfl rfl rfl ?_; refine TL.run1 (pure_pick_false rfl rfl) rfl ?_; refine TL.run1 (pure_move rfl) rfl ?_; refine TL.passG rfl rfl rfl rfl ?_; refine TL.passG rfl rfl rfl rfl ?_; refine TL.passG rfl rfl rfl rfl ?_; refine TL.passG rfl rfl rfl rfl ?_; refine TL.passG rfl rfl rfl rfl ?_; refine TL.run1 (pure_pick_false rfl rfl) rfl ?_; refine TL.run1 (pure_assign rfl) rfl ?_; refine TL.cutEnd (by repeat (first | exact Same.refl _ _ | refine Same.put rfl ?_)) rfl ?_
        first | (rw [sty_ext]; simp_all; done) | (rw [sty_ext]; grind)
    · try dsimp only at hg10
      refine TL.passG rfl rfl rfl rfl ?_; refine TL.passG rfl rfl rfl rfl ?_; refine TL.passG rfl rfl rfl rfl ?_; refine TL.passG rfl rfl rfl rfl ?_; refine TL.passG rfl rfl rfl rfl ?_; refine TL.run1 (pure_pick_false rfl rfl) rfl ?_; refine TL.run1 (pure_move rfl) rfl ?_; refine TL.passG rfl rfl rfl rfl ?_; refine TL.passG rfl rfl rfl rfl ?_; refine TL.passG rfl rfl rfl rfl ?_; refine TL.passG rfl rfl rfl rfl ?_; refine TL.passG rfl rfl rfl rfl ?_; refine TL.run1 (pure_pick_false rfl rfl) rfl ?_; refine TL.run1 (pure_move rfl) rfl ?_; refine TL.passG rfl rfl rfl rfl ?_; refine TL.passG rfl rfl rfl rfl ?_; refine TL.passG rfl rfl rfl rfl ?_; refine TL.passG rfl rfl rfl rfl ?_; refine TL.passG rfl rfl rfl rfl ?_; refine TL.run1 (pure_pick_false rfl rfl) rfl ?_; refine TL.run1 (pure_move rfl) rfl ?_; refine TL.passG rfl rfl rfl rfl ?_; refine TL.passG rfl rfl rfl rfl ?_; refine TL.passG rfl rfl rfl rfl ?_; refine TL.passG rfl rfl rfl rfl ?_; refine TL.passG rfl rfl rfl rfl ?_; refine TL.run1 (pure_pick_false rfl rfl) rfl ?_; refine TL.run1 (pure_move rfl) rfl ?_; refine TL.passG rfl rfl rfl rfl ?_; refine TL.passG rfl rfl rfl rfl ?_; refine TL.passG rfl rfl rfl rfl ?_; refine TL.passG rfl rfl rfl rfl ?_; refine TL.passG rfl rfl rfl rfl ?_; refine TL.run1 (pure_pick_false rfl rfl) rfl ?_; refine TL.run1 (pure_assign rfl) rfl ?_; refine TL.cutEnd (by repeat (first | exact Same.refl _ _ | refine Same.put rfl ?_)) rfl ?_
      first | (rw [sty_ext]; simp_all; done) | (rw [sty_ext]; grind)
  refine TC.ret ?_
  exact ret_bool rfl rfl
set_option maxRecDepth 100000 in
theorem EqF_spec (a b : List Sty) (hp : ∀ i, i < a.length → (yAt a i).props.length ≤ 1000000) (hl : a.length ≤ 1000000) : Fun Try.prog 60 [.sl 6 (encSs a), .sl 6 (encSs b), .fn 61 []] (.v (.bool (decide (a = b)))) := by
  refine Fun.enter (n := 32) (rs := [.tmp 6]) Try.func60 rfl Try.ntmps60 Try.results60 rfl (fun w F => ?_)
  have hka := encSs_len a
  have hkb := encSs_len b
  refine TC.seq ?_; refine TC.region ?_; refine TL.run1 (pure_assign rfl) rfl ?_; refine TL.nil' ?_; refine TC.seq ?_; refine TC.seq ?_; refine TC.region ?_; refine TL.run1 (pure_move rfl) rfl ?_
  first | refine TL.run1 (pure_len Ty.sl22 rfl) rfl ?_ | refine TL.run1 (pure_len_row Ty.sl22 rfl (by repeat (first | exact List.Mem.head _ | apply List.Mem.tail))) rfl ?_ | refine TL.run1 (pure_len_nil Ty.sl22 rfl) rfl ?_
  refine TL.run1 (pure_move rfl) rfl ?_
  first | refine TL.run1 (pure_len Ty.sl22 rfl) rfl ?_ | refine TL.run1 (pure_len_row Ty.sl22 rfl (by repeat (first | exact List.Mem.head _ | apply List.Mem.tail))) rfl ?_ | refine TL.run1 (pure_len_nil Ty.sl22 rfl) rfl ?_
  refine TL.run1 (pure_neq rfl rfl) rfl ?_; refine TL.nil' ?_
  first | refine TC.condD rfl (fun hc14 => ?_) (fun hc14 => ?_) | refine TC.condN rfl (fun hc14 => ?_) (fun hc14 => ?_) | refine TC.cond rfl (fun hc14 => ?_) (fun hc14 => ?_)
  · try dsimp only at hc14
    refine TC.seq ?_; refine TC.region ?_; refine TL.run1 (pure_assign rfl) rfl ?_; refine TL.nil' ?_; refine TC.ret ?_; refine then_ret ?_
    exact ret_bool rfl (decide_eq_false (fun h => by subst h; omega)).symm
  · try dsimp only at hc14
    refine TC.skip' ?_; refine TC.seq ?_; refine TC.seq ?_; refine TC.region ?_; refine TL.run1 (pure_move rfl) rfl ?_
    first | refine TL.run1 (pure_len Ty.sl22 rfl) rfl ?_ | refine TL.run1 (pure_len_row Ty.sl22 rfl (by repeat (first | exact List.Mem.head _ | apply List.Mem.tail))) rfl ?_ | refine TL.run1 (pure_len_nil Ty.sl22 rfl) rfl ?_
    refine TL.run1 (pure_move rfl) rfl ?_; refine TL.nil' ?_; refine TC.block ?_; refine TC.loopX (X := Nat) (fun i => [(1, .sl 6 (encSs b)), (2, .fn 61 []), (15, .sl 6 (encSs a)), (16, .v (.int .i64 (encSs a).length)), (17, .v (.int .i64 i))]) (fun i => []) (fun i => (i ≤ a.length) ∧ (∀ j, j < i → yAt a j = yAt b j)) (fun i => a.length - i) (0) ⟨by skip; repeat (first | exact Agree.nil | refine Agree.cons rfl ?_), by skip; repeat (first | exact List.nil_sublist _ | exact List.Sublist.refl _ | apply List.Sublist.cons_cons | apply List.Sublist.cons)⟩ ?_ ?_
    · skip
      exact ⟨Nat.zero_le _, fun j h => by omega⟩
    intro i
    rintro ⟨h1, h2⟩
    show TC _ _ _ (Env.of [(1, .sl 6 (encSs b)), (2, .fn 61 []), (15, .sl 6 (encSs a)), (16, .v (.int .i64 (encSs a).length)), (17, .v (.int .i64 i))]) []
    refine TC.seq ?_; refine TC.region ?_; refine TL.run1 (pure_lss rfl rfl) rfl ?_; refine TL.nil' ?_; refine TC.seq ?_
    first | refine TC.condD rfl (fun hc18 => ?_) (fun hc18 => ?_) | refine TC.condN rfl (fun hc18 => ?_) (fun hc18 => ?_) | refine TC.cond rfl (fun hc18 => ?_) (fun hc18 => ?_)
    · try dsimp only at hc18
      refine TC.skip' ?_; refine TC.seq ?_; refine TC.block ?_; refine TC.seq ?_
      have hia : i < a.length := by omega
      have hra := encSs_get a i hia
      have hrb := encSs_get b i (by omega)
      refine TC.region ?_; refine TL.run1 (pure_move rfl) rfl ?_; refine TL.run1 (pure_indexAddr Ty.sl22 rfl rfl (by omega) hra (List.cons_ne_nil _ _)) rfl ?_
      first | refine TL.run1 (pure_load Ty.agg28 rfl (.succ (.succ (.succ (.succ (.succ (.succ (.zero _)))))))) rfl ?_ | refine TL.run1 (pure_load_own Ty.agg28 rfl (by repeat (first | exact List.Mem.head _ | apply List.Mem.tail)) (by repeat (first | exact DropR.zero _ | apply DropR.succ)) (.succ (.succ (.succ (.succ (.succ (.succ (.zero _)))))))) rfl ?_
      refine TL.alloc Ty.zero28 rfl (fun g8 => ?_)
      refine TL.run1 (pure_assign rfl) rfl ?_; refine TL.store rfl rfl (.agg _) Try.sizeOf28 rfl (by repeat (first | exact UpdR.here _ | apply UpdR.there)) (by repeat (first | exact PutR.nil _ | apply PutR.here | apply PutR.skip)) ?_; refine TL.nil' ?_; refine TC.seq ?_; refine TC.region ?_; refine TL.run1 (pure_move rfl) rfl ?_; refine TL.run1 (pure_move rfl) rfl ?_; refine TL.run1 (pure_indexAddr Ty.sl22 rfl rfl (by omega) hrb (List.cons_ne_nil _ _)) rfl ?_
      first | refine TL.run1 (pure_load Ty.agg28 rfl (.succ (.succ (.succ (.succ (.succ (.succ (.zero _)))))))) rfl ?_ | refine TL.run1 (pure_load_own Ty.agg28 rfl (by repeat (first | exact List.Mem.head _ | apply List.Mem.tail)) (by repeat (first | exact DropR.zero _ | apply DropR.succ)) (.succ (.succ (.succ (.succ (.succ (.succ (.zero _)))))))) rfl ?_
      refine TL.alloc Ty.zero28 rfl (fun g9 => ?_)
      refine TL.store rfl rfl (.agg _) Try.sizeOf28 rfl (by repeat (first | exact UpdR.here _ | apply UpdR.there)) (by repeat (first | exact PutR.nil _ | apply PutR.here | apply PutR.skip)) ?_; refine TL.nil' ?_; refine TC.seq ?_; refine TC.region ?_; refine TL.run1 (pure_move rfl) rfl ?_
      first | refine TL.run1 (pure_load Ty.agg28 rfl (.succ (.succ (.succ (.succ (.succ (.succ (.zero _)))))))) rfl ?_ | refine TL.run1 (pure_load_own Ty.agg28 rfl (by repeat (first | exact List.Mem.head _ | apply List.Mem.tail)) (by repeat (first | exact DropR.zero _ | apply DropR.succ)) (.succ (.succ (.succ (.succ (.succ (.succ (.zero _)))))))) rfl ?_
      first | refine TL.run1 (pure_load Ty.agg28 rfl (.succ (.succ (.succ (.succ (.succ (.succ (.zero _)))))))) rfl ?_ | refine TL.run1 (pure_load_own Ty.agg28 rfl (by repeat (first | exact List.Mem.head _ | apply List.Mem.tail)) (by repeat (first | exact DropR.zero _ | apply DropR.succ)) (.succ (.succ (.succ (.succ (.succ (.succ (.zero _)))))))) rfl ?_
      refine TL.run1 (pure_callv rfl (Eq1_spec (yAt a i) (yAt b i) (hp i hia)) (.cons rfl (.cons rfl .nil)) Try.call61) rfl ?_; refine TL.run1 (pure_not rfl) rfl ?_; refine TL.nil' ?_
      first | refine TC.condD rfl (fun hc30 => ?_) (fun hc30 => ?_) | refine TC.condN rfl (fun hc30 => ?_) (fun hc30 => ?_) | refine TC.cond rfl (fun hc30 => ?_) (fun hc30 => ?_)
      · try dsimp only at hc30
        refine TC.seq ?_; refine TC.region ?_; refine TL.run1 (pure_assign rfl) rfl ?_; refine TL.nil' ?_; refine TC.ret ?_; refine block_ret ?_; refine then_ret ?_; refine loop_ret ?_; refine block_ret ?_; refine then_ret ?_
        have hq : ¬ yAt a i = yAt b i := by simpa using hc30
        exact ret_bool rfl (decide_eq_false (fun h => hq (by rw [h]))).symm
      · try dsimp only at hc30
        refine TC.skip ?_; refine block_normal ?_; refine then_normal ?_; refine TC.region ?_; refine TL.run1 (pure_add rfl rfl (mkI64 (by omega) (by omega))) rfl ?_; refine TL.run1 (pure_move rfl) rfl ?_; refine TL.nil ?_
        have hq : yAt a i = yAt b i := by simpa using hc30
        refine loop_next (i + 1) ⟨by ((try dsimp only); rw [show (((i + 1 : Nat)) : Int) = (i : Int) + 1 by omega]; repeat (first | exact Agree.nil | refine Agree.cons rfl ?_)), by repeat (first | exact List.nil_sublist _ | exact List.Sublist.refl _ | apply List.Sublist.cons_cons | apply List.Sublist.cons)⟩ ⟨by omega, fun j h => by rcases Nat.lt_or_eq_of_le (Nat.le_of_lt_succ h) with h | h; exact h2 j h; subst h; exact hq⟩ (by omega)
    · try dsimp only at hc18
      refine TC.exit ?_; refine then_exit ?_; refine loop_exit ?_; refine block_here ?_; refine then_normal ?_; refine TC.seq ?_; refine TC.region ?_; refine TL.run1 (pure_assign rfl) rfl ?_; refine TL.nil' ?_; refine TC.ret ?_
      exact ret_bool rfl (decide_eq_true (stys_ext (by omega) (fun j h => h2 j (by omega)))).symm
set_option maxRecDepth 100000 in
theorem SEqual_spec (a b : List Sty) (hp : ∀ i, i < a.length → (yAt a i).props.length ≤ 1000000) (hl : a.length ≤ 1000000) : Fun Try.prog 34 [.sl 6 (encSs a), .sl 6 (encSs b)] (.v (.bool (decide (a = b)))) := by
  refine Fun.enter (n := 8) (rs := [.tmp 4]) Try.func34 rfl Try.ntmps34 Try.results34 rfl (fun w F => ?_)
  refine TC.seq ?_; refine TC.region ?_; refine TL.run1 (pure_assign rfl) rfl ?_; refine TL.nil' ?_; refine TC.seq ?_; refine TC.region ?_; refine TL.run1 (pure_move rfl) rfl ?_; refine TL.run1 (pure_move rfl) rfl ?_; refine TL.run1 (pure_call (EqF_spec a b hp hl) (.cons rfl (.cons rfl (.cons rfl .nil))) Try.call60) rfl ?_; refine TL.run1 (pure_assign rfl) rfl ?_; refine TL.nil' ?_; refine TC.ret ?_
  exact ret_bool rfl rfl
end Go.Ob
set_option linter.unusedVariables false
set_option linter.unusedSimpArgs false
namespace Go.Ob
open Go.Proofs

def ownE (l : List Sty) (i : Nat) : Int :=
  if (yAt l i).id < 1 ∨ (yAt l i).id > 1073741824 then 18 else if 0 < (i : Int) ∧ (yAt l i).id = (yAt l (i - 1)).id then 7 else if 0 < (i : Int) ∧ (yAt l i).id < (yAt l (i - 1)).id then 6
  else if (yAt l i).kind ≠ 1 ∧ (yAt l i).kind ≠ 2 then 3 else if ¬ NameP (yAt l i).name then 13 else if 0 ≤ findN (l.take i) (yAt l i).kind (yAt l i).name then 7
  else if hasP (yAt l i).props 20 = true ∨ hasP (yAt l i).props 1 = true then 4 else checkP (if (yAt l i).kind = 1 then 2 else 1) (yAt l i).props
theorem encSs_take0 (l : List Sty) (i : Nat) : ((encSs l).take i).drop 0 = encSs (l.take i) := by simp [encSs]
theorem hasP_at (ps : List (Int × Int)) (k : Nat) (h : k < ps.length) (key : Int) (hk : (pAt ps k).1 = key) : hasP ps key = true := by
  unfold hasP
  rw [List.any_eq_true]
  refine ⟨pAt ps k, ?_, by simp [hk]⟩
  unfold pAt; rw [Int.toNat_natCast]; simp [h]
theorem hasP_none (ps : List (Int × Int)) (key : Int) (h : ∀ k, k < ps.length → (pAt ps (k : Nat)).1 ≠ key) : hasP ps key = false := by
  unfold hasP
  rw [List.any_eq_false]
  intro x hx
  obtain ⟨k, hk, rfl⟩ := List.getElem_of_mem hx
  have := h k hk
  unfold pAt at this
  rw [Int.toNat_natCast] at this
  simpa [hk] using this
set_option maxHeartbeats 1000000 in
set_option maxRecDepth 100000 in
theorem own_spec (l : List Sty) (i : Nat) (hi : i < l.length) (hl : l.length ≤ 1000000) (hnz : (yAt l i).name.size ≤ 1000000000) (hpz : (yAt l i).props.length ≤ 1000000) : Fun Try.prog 44 [.sl 6 (encSs l), .v (.int .i64 i)] (.v (.int .i64 (ownE l i))) := by
  refine Fun.enter (n := 99) (rs := [.tmp 4]) Try.func44 rfl Try.ntmps44 Try.results44 rfl (fun w F => ?_)
  have hk := encSs_len l
  have hrow := encSs_get l i hi
  have hpl := encP_len (yAt l i).props
  refine TC.seq ?_; refine TC.region ?_; refine TL.run1 (pure_assign rfl) rfl ?_; refine TL.nil' ?_; refine TC.seq ?_; refine TC.region ?_; refine TL.run1 (pure_move rfl) rfl ?_; refine TL.run1 (pure_move rfl) rfl ?_; refine TL.run1 (pure_indexAddr Ty.sl22 rfl rfl (by omega) hrow (List.cons_ne_nil _ _)) rfl ?_
  first | refine TL.run1 (pure_load Ty.agg28 rfl (.succ (.succ (.succ (.succ (.succ (.succ (.zero _)))))))) rfl ?_ | refine TL.run1 (pure_load_own Ty.agg28 rfl (by repeat (first | exact List.Mem.head _ | apply List.Mem.tail)) (by repeat (first | exact DropR.zero _ | apply DropR.succ)) (.succ (.succ (.succ (.succ (.succ (.succ (.zero _)))))))) rfl ?_
  refine TL.alloc Ty.zero28 rfl (fun g5 => ?_)
  refine TL.store rfl rfl (.agg _) Try.sizeOf28 rfl (by repeat (first | exact UpdR.here _ | apply UpdR.there)) (by repeat (first | exact PutR.nil _ | apply PutR.here | apply PutR.skip)) ?_; refine TL.nil' ?_; refine TC.seq ?_; refine TC.block ?_; refine TC.regionCut [15, 16, 17, 18, 19, 20, 21, 22, 14] 14 ((yAt l i).id < 1 ∨ (yAt l i).id > 1073741824) ?_ ?_
  · skip
    first | refine TL.run1 (pure_fieldAddr Ty.f28_0 rfl (.zero _) (List.cons_ne_nil _ _)) rfl ?_ | refine TL.run1 (pure_fieldAddr_own Ty.f28_0 rfl) rfl ?_
    first | refine TL.run1 (pure_load1 Ty.one3 rfl) rfl ?_ | refine TL.run1 (pure_load1_own Ty.one3 rfl (by repeat (first | exact List.Mem.head _ | apply List.Mem.tail)) (by repeat (first | exact DropR.zero _ | apply DropR.succ))) rfl ?_
    refine TL.run1 (pure_lss rfl rfl) rfl ?_; refine TL.run1 (pure_move rfl) rfl ?_
    first | refine TL.splitP 18 rfl (fun hg18 => ?_) (fun hg18 => ?_) | refine TL.split 18 rfl (fun hg18 => ?_) (fun hg18 => ?_)
    · try dsimp only at hg18
      refine TL.passG rfl rfl rfl rfl ?_; refine TL.passG rfl rfl rfl rfl ?_; refine TL.passG rfl rfl rfl rfl ?_; refine TL.run1 (pure_pick_true rfl rfl) rfl ?_; refine TL.run1 (pure_assign rfl) rfl ?_; refine TL.cutEnd (by repeat (first | exact Same.refl _ _ | refine Same.put rfl ?_)) rfl ?_
      first | (simp only [decide_eq_true_eq, Bool.false_eq_true, false_iff, true_iff, iff_true, iff_false, Bool.not_eq_true]; omega) | (simp_all; done) | (simp_all; omega) | grind
    · try dsimp only at hg18
      first | refine TL.runG rfl rfl (pure_fieldAddr Ty.f28_0 rfl (.zero _) (List.cons_ne_nil _ _)) rfl ?_ | refine TL.runG rfl rfl (pure_fieldAddr_own Ty.f28_0 rfl) rfl ?_
      first | refine TL.runG rfl rfl (pure_load1 Ty.one3 rfl) rfl ?_ | refine TL.runG rfl rfl (pure_load1_own Ty.one3 rfl (by repeat (first | exact List.Mem.head _ | apply List.Mem.tail)) (by repeat (first | exact DropR.zero _ | apply DropR.succ))) rfl ?_
      refine TL.runG rfl rfl (pure_gtr rfl rfl) rfl ?_; refine TL.run1 (pure_pick_false rfl rfl) rfl ?_; refine TL.run1 (pure_assign rfl) rfl ?_; refine TL.cutEnd (by repeat (first | exact Same.refl _ _ | refine Same.put rfl ?_)) rfl ?_
      first | (simp only [decide_eq_true_eq, Bool.false_eq_true, false_iff, true_iff, iff_true, iff_false, Bool.not_eq_true]; omega) | (simp_all; done) | (simp_all; omega) | grind
  first | refine TC.condD rfl (fun hc14 => ?_) (fun hc14 => ?_) | refine TC.condN rfl (fun hc14 => ?_) (fun hc14 => ?_) | refine TC.cond rfl (fun hc14 => ?_) (fun hc14 => ?_)
  · try dsimp only at hc14
    refine TC.seq ?_; refine TC.region ?_; refine TL.run1 (pure_assign rfl) rfl ?_; refine TL.nil' ?_; refine TC.ret ?_; refine block_ret ?_; refine then_ret ?_
    exact ret_int rfl (by unfold ownE; rw [if_pos hc14])
  · try dsimp only at hc14
    refine TC.drawCut [24, 25, 26, 27, 28, 29, 30, 31, 32, 33, 34, 35, 36, 23] 23 (0 < (i : Int) ∧ (yAt l i).id = (yAt l (i - 1)).id) Ty.follows (by kernel_rfl) ?_ ?_
    · skip
      refine TD.run1 (pure_move rfl) rfl ?_; refine TD.run1 (pure_gtr rfl rfl) rfl ?_; refine TD.run1 (pure_move rfl) rfl ?_
      first | refine TD.splitP 26 rfl (fun hg26 => ?_) (fun hg26 => ?_) | refine TD.split 26 rfl (fun hg26 => ?_) (fun hg26 => ?_)
      · try dsimp only at hg26
        have hi0 : 0 < i := by (have h := hg26; first | omega | (simp only [decide_eq_true_eq] at h; omega))
        have hrp : (encSs l)[((i : Int) - 1).toNat]? = some [.v (.int .i64 (yAt l (i - 1)).id), .v (.int .i64 (yAt l (i - 1)).kind), .v (.string (yAt l (i - 1)).name), .v (.int .i64 (yAt l (i - 1)).base), .v (.int .i64 (yAt l (i - 1)).next), .sl 2 (encP (yAt l (i - 1)).props)] := by (rw [show ((i : Int) - 1) = ((i - 1 : Nat) : Int) by omega]; exact encSs_get l (i - 1) (by omega))
        first | refine TD.runG rfl rfl (pure_fieldAddr Ty.f28_0 rfl (.zero _) (List.cons_ne_nil _ _)) rfl ?_ | refine TD.runG rfl rfl (pure_fieldAddr_own Ty.f28_0 rfl) rfl ?_
        first | refine TD.runG rfl rfl (pure_load1 Ty.one3 rfl) rfl ?_ | refine TD.runG rfl rfl (pure_load1_own Ty.one3 rfl (by repeat (first | exact List.Mem.head _ | apply List.Mem.tail)) (by repeat (first | exact DropR.zero _ | apply DropR.succ))) rfl ?_
        refine TD.runG rfl rfl (pure_move rfl) rfl ?_; refine TD.runG rfl rfl (pure_move rfl) rfl ?_; refine TD.runG rfl rfl (pure_sub rfl rfl (mkI64 (by omega) (by omega))) rfl ?_; refine TD.runG rfl rfl (pure_indexAddr Ty.sl22 rfl rfl (by omega) hrp (List.cons_ne_nil _ _)) rfl ?_
        first | refine TD.runG rfl rfl (pure_fieldAddr Ty.f28_0 rfl (.zero _) (List.cons_ne_nil _ _)) rfl ?_ | refine TD.runG rfl rfl (pure_fieldAddr_own Ty.f28_0 rfl) rfl ?_
        first | refine TD.runG rfl rfl (pure_load1 Ty.one3 rfl) rfl ?_ | refine TD.runG rfl rfl (pure_load1_own Ty.one3 rfl (by repeat (first | exact List.Mem.head _ | apply List.Mem.tail)) (by repeat (first | exact DropR.zero _ | apply DropR.succ))) rfl ?_
        refine TD.runG rfl rfl (pure_eql rfl rfl) rfl ?_; refine TD.run1 (pure_pick_true rfl rfl) rfl ?_; refine TD.run1 (pure_assign rfl) rfl ?_; refine TD.cutEnd (by repeat (first | exact Same.refl _ _ | refine Same.put rfl ?_)) rfl ?_
        first | (simp only [decide_eq_true_eq]; omega) | (simp_all; done) | (simp_all; omega) | grind
      · try dsimp only at hg26
        refine TD.passG rfl rfl rfl rfl ?_; refine TD.passG rfl rfl rfl rfl ?_; refine TD.passG rfl rfl rfl rfl ?_; refine TD.passG rfl rfl rfl rfl ?_; refine TD.passG rfl rfl rfl rfl ?_; refine TD.passG rfl rfl rfl rfl ?_; refine TD.passG rfl rfl rfl rfl ?_; refine TD.passG rfl rfl rfl rfl ?_; refine TD.passG rfl rfl rfl rfl ?_; refine TD.run1 (pure_pick_false rfl rfl) rfl ?_; refine TD.run1 (pure_assign rfl) rfl ?_; refine TD.cutEnd (by repeat (first | exact Same.refl _ _ | refine Same.put rfl ?_)) rfl ?_
        first | (simp only [decide_eq_true_eq]; omega) | (simp_all; done) | (simp_all; omega) | grind
    first | refine TC.condD rfl (fun hc23 => ?_) (fun hc23 => ?_) | refine TC.condN rfl (fun hc23 => ?_) (fun hc23 => ?_) | refine TC.cond rfl (fun hc23 => ?_) (fun hc23 => ?_)
    · try dsimp only at hc23
      refine TC.seq ?_; refine TC.region ?_; refine TL.run1 (pure_assign rfl) rfl ?_; refine TL.nil' ?_; refine TC.ret ?_; refine block_ret ?_; refine then_ret ?_
      exact ret_int rfl (by unfold ownE; rw [if_neg hc14, if_pos hc23])
    · try dsimp only at hc23
      refine TC.drawCut [38, 39, 40, 41, 42, 43, 44, 45, 46, 47, 48, 49, 50, 37] 37 (0 < (i : Int) ∧ (yAt l i).id < (yAt l (i - 1)).id) Ty.follows (by kernel_rfl) ?_ ?_
      · skip
        refine TD.run1 (pure_move rfl) rfl ?_; refine TD.run1 (pure_gtr rfl rfl) rfl ?_; refine TD.run1 (pure_move rfl) rfl ?_
        first | refine TD.splitP 40 rfl (fun hg40 => ?_) (fun hg40 => ?_) | refine TD.split 40 rfl (fun hg40 => ?_) (fun hg40 => ?_)
        · try dsimp only at hg40
          have hi0 : 0 < i := by (have h := hg40; first | omega | (simp only [decide_eq_true_eq] at h; omega))
          have hrp : (encSs l)[((i : Int) - 1).toNat]? = some [.v (.int .i64 (yAt l (i - 1)).id), .v (.int .i64 (yAt l (i - 1)).kind), .v (.string (yAt l (i - 1)).name), .v (.int .i64 (yAt l (i - 1)).base), .v (.int .i64 (yAt l (i - 1)).next), .sl 2 (encP (yAt l (i - 1)).props)] := by (rw [show ((i : Int) - 1) = ((i - 1 : Nat) : Int) by omega]; exact encSs_get l (i - 1) (by omega))
          first | refine TD.runG rfl rfl (pure_fieldAddr Ty.f28_0 rfl (.zero _) (List.cons_ne_nil _ _)) rfl ?_ | refine TD.runG rfl rfl (pure_fieldAddr_own Ty.f28_0 rfl) rfl ?_
          first | refine TD.runG rfl rfl (pure_load1 Ty.one3 rfl) rfl ?_ | refine TD.runG rfl rfl (pure_load1_own Ty.one3 rfl (by repeat (first | exact List.Mem.head _ | apply List.Mem.tail)) (by repeat (first | exact DropR.zero _ | apply DropR.succ))) rfl ?_
          refine TD.runG rfl rfl (pure_move rfl) rfl ?_; refine TD.runG rfl rfl (pure_move rfl) rfl ?_; refine TD.runG rfl rfl (pure_sub rfl rfl (mkI64 (by omega) (by omega))) rfl ?_; refine TD.runG rfl rfl (pure_indexAddr Ty.sl22 rfl rfl (by omega) hrp (List.cons_ne_nil _ _)) rfl ?_
          first | refine TD.runG rfl rfl (pure_fieldAddr Ty.f28_0 rfl (.zero _) (List.cons_ne_nil _ _)) rfl ?_ | refine TD.runG rfl rfl (pure_fieldAddr_own Ty.f28_0 rfl) rfl ?_
          first | refine TD.runG rfl rfl (pure_load1 Ty.one3 rfl) rfl ?_ | refine TD.runG rfl rfl (pure_load1_own Ty.one3 rfl (by repeat (first | exact List.Mem.head _ | apply List.Mem.tail)) (by repeat (first | exact DropR.zero _ | apply DropR.succ))) rfl ?_
          refine TD.runG rfl rfl (pure_lss rfl rfl) rfl ?_; refine TD.run1 (pure_pick_true rfl rfl) rfl ?_; refine TD.run1 (pure_assign rfl) rfl ?_; refine TD.cutEnd (by repeat (first | exact Same.refl _ _ | refine Same.put rfl ?_)) rfl ?_
          first | (simp only [decide_eq_true_eq]; omega) | (simp_all; done) | (simp_all; omega) | grind
        · try dsimp only at hg40
          refine TD.passG rfl rfl rfl rfl ?_; refine TD.passG rfl rfl rfl rfl ?_; refine TD.passG rfl rfl rfl rfl ?_; refine TD.passG rfl rfl rfl rfl ?_; refine TD.passG rfl rfl rfl rfl ?_; refine TD.passG rfl rfl rfl rfl ?_; refine TD.passG rfl rfl rfl rfl ?_; refine TD.passG rfl rfl rfl rfl ?_; refine TD.passG rfl rfl rfl rfl ?_; refine TD.run1 (pure_pick_false rfl rfl) rfl ?_; refine TD.run1 (pure_assign rfl) rfl ?_; refine TD.cutEnd (by repeat (first | exact Same.refl _ _ | refine Same.put rfl ?_)) rfl ?_
          first | (simp only [decide_eq_true_eq]; omega) | (simp_all; done) | (simp_all; omega) | grind
      first | refine TC.condD rfl (fun hc37 => ?_) (fun hc37 => ?_) | refine TC.condN rfl (fun hc37 => ?_) (fun hc37 => ?_) | refine TC.cond rfl (fun hc37 => ?_) (fun hc37 => ?_)
      · try dsimp only at hc37
        refine TC.seq ?_; refine TC.region ?_; refine TL.run1 (pure_assign rfl) rfl ?_; refine TL.nil' ?_; refine TC.ret ?_; refine block_ret ?_; refine then_ret ?_
        exact ret_int rfl (by unfold ownE; rw [if_neg hc14, if_neg hc23, if_pos hc37])
      · try dsimp only at hc37
        refine TC.regionCut [52, 53, 54, 55, 56, 57, 58, 59, 51] 51 ((yAt l i).kind ≠ 1 ∧ (yAt l i).kind ≠ 2) ?_ ?_
        · skip
          first | refine TL.run1 (pure_fieldAddr Ty.f28_1 rfl (.succ (.zero _)) (List.cons_ne_nil _ _)) rfl ?_ | refine TL.run1 (pure_fieldAddr_own Ty.f28_1 rfl) rfl ?_
          first | refine TL.run1 (pure_load1 Ty.one3 rfl) rfl ?_ | refine TL.run1 (pure_load1_own Ty.one3 rfl (by repeat (first | exact List.Mem.head _ | apply List.Mem.tail)) (by repeat (first | exact DropR.zero _ | apply DropR.succ))) rfl ?_
          refine TL.run1 (pure_neq rfl rfl) rfl ?_; refine TL.run1 (pure_move rfl) rfl ?_
          first | refine TL.splitP 55 rfl (fun hg55 => ?_) (fun hg55 => ?_) | refine TL.split 55 rfl (fun hg55 => ?_) (fun hg55 => ?_)
          · try dsimp only at hg55
            first | refine TL.runG rfl rfl (pure_fieldAddr Ty.f28_1 rfl (.succ (.zero _)) (List.cons_ne_nil _ _)) rfl ?_ | refine TL.runG rfl rfl (pure_fieldAddr_own Ty.f28_1 rfl) rfl ?_
            first | refine TL.runG rfl rfl (pure_load1 Ty.one3 rfl) rfl ?_ | refine TL.runG rfl rfl (pure_load1_own Ty.one3 rfl (by repeat (first | exact List.Mem.head _ | apply List.Mem.tail)) (by repeat (first | exact DropR.zero _ | apply DropR.succ))) rfl ?_
            refine TL.runG rfl rfl (pure_neq rfl rfl) rfl ?_; refine TL.run1 (pure_pick_true rfl rfl) rfl ?_; refine TL.run1 (pure_assign rfl) rfl ?_; refine TL.cutEnd (by repeat (first | exact Same.refl _ _ | refine Same.put rfl ?_)) rfl ?_
            first | (simp only [decide_eq_true_eq, Bool.false_eq_true, false_iff, true_iff, iff_true, iff_false, Bool.not_eq_true]; omega) | (simp_all; done) | (simp_all; omega) | grind
          · try dsimp only at hg55
            refine TL.passG rfl rfl rfl rfl ?_; refine TL.passG rfl rfl rfl rfl ?_; refine TL.passG rfl rfl rfl rfl ?_; refine TL.run1 (pure_pick_false rfl rfl) rfl ?_; refine TL.run1 (pure_assign rfl) rfl ?_; refine TL.cutEnd (by repeat (first | exact Same.refl _ _ | refine Same.put rfl ?_)) rfl ?_
            first | (simp only [decide_eq_true_eq, Bool.false_eq_true, false_iff, true_iff, iff_true, iff_false, Bool.not_eq_true]; omega) | (simp_all; done) | (simp_all; omega) | grind
        first | refine TC.condD rfl (fun hc51 => ?_) (fun hc51 => ?_) | refine TC.condN rfl (fun hc51 => ?_) (fun hc51 => ?_) | refine TC.cond rfl (fun hc51 => ?_) (fun hc51 => ?_)
        · try dsimp only at hc51
          refine TC.seq ?_; refine TC.region ?_; refine TL.run1 (pure_assign rfl) rfl ?_; refine TL.nil' ?_; refine TC.ret ?_; refine block_ret ?_; refine then_ret ?_
          exact ret_int rfl (by unfold ownE; rw [if_neg hc14, if_neg hc23, if_neg hc37, if_pos hc51])
        · try dsimp only at hc51
          refine TC.seq ?_; refine TC.region ?_
          first | refine TL.run1 (pure_fieldAddr Ty.f28_2 rfl (.succ (.succ (.zero _))) (List.cons_ne_nil _ _)) rfl ?_ | refine TL.run1 (pure_fieldAddr_own Ty.f28_2 rfl) rfl ?_
          first | refine TL.run1 (pure_load1 Ty.one9 rfl) rfl ?_ | refine TL.run1 (pure_load1_own Ty.one9 rfl (by repeat (first | exact List.Mem.head _ | apply List.Mem.tail)) (by repeat (first | exact DropR.zero _ | apply DropR.succ))) rfl ?_
          refine TL.run1 (pure_call (IsName_spec (yAt l i).name hnz) (.cons rfl .nil) Try.call17) rfl ?_; refine TL.run1 (pure_not rfl) rfl ?_; refine TL.run1 (pure_assign rfl) rfl ?_; refine TL.nil' ?_
          first | refine TC.condD rfl (fun hc60 => ?_) (fun hc60 => ?_) | refine TC.condN rfl (fun hc60 => ?_) (fun hc60 => ?_) | refine TC.cond rfl (fun hc60 => ?_) (fun hc60 => ?_)
          · try dsimp only at hc60
            have hnm : ¬ NameP (yAt l i).name := by simpa using hc60
            refine TC.seq ?_; refine TC.region ?_; refine TL.run1 (pure_assign rfl) rfl ?_; refine TL.nil' ?_; refine TC.ret ?_; refine block_ret ?_; refine then_ret ?_
            exact ret_int rfl (by unfold ownE; rw [if_neg hc14, if_neg hc23, if_neg hc37, if_neg hc51, if_pos hnm])
          · try dsimp only at hc60
            have hnm : ¬ ¬ NameP (yAt l i).name := by simpa using hc60
            refine TC.skip ?_; refine block_normal ?_; refine then_normal ?_; refine TC.seq ?_; refine TC.seq ?_; refine TC.draw Ty.follows (by kernel_rfl) ?_; refine TD.run1 (pure_move rfl) rfl ?_; refine TD.run1 (pure_move rfl) rfl ?_; refine TD.run1 (pure_slice (l := 0) (h := i) Ty.sl22 rfl rfl rfl (by omega) (by omega)) rfl ?_
            rw [encSs_take0]
            first | refine TD.run1 (pure_fieldAddr Ty.f28_1 rfl (.succ (.zero _)) (List.cons_ne_nil _ _)) rfl ?_ | refine TD.run1 (pure_fieldAddr_own Ty.f28_1 rfl) rfl ?_
            first | refine TD.run1 (pure_load1 Ty.one3 rfl) rfl ?_ | refine TD.run1 (pure_load1_own Ty.one3 rfl (by repeat (first | exact List.Mem.head _ | apply List.Mem.tail)) (by repeat (first | exact DropR.zero _ | apply DropR.succ))) rfl ?_
            first | refine TD.run1 (pure_fieldAddr Ty.f28_2 rfl (.succ (.succ (.zero _))) (List.cons_ne_nil _ _)) rfl ?_ | refine TD.run1 (pure_fieldAddr_own Ty.f28_2 rfl) rfl ?_
            first | refine TD.run1 (pure_load1 Ty.one9 rfl) rfl ?_ | refine TD.run1 (pure_load1_own Ty.one9 rfl (by repeat (first | exact List.Mem.head _ | apply List.Mem.tail)) (by repeat (first | exact DropR.zero _ | apply DropR.succ))) rfl ?_
            refine TD.run1 (pure_call (SFindName_spec (l.take i) (yAt l i).kind (yAt l i).name (by rw [List.length_take]; omega)) (.cons rfl (.cons rfl (.cons rfl .nil))) Try.call25) rfl ?_; refine TD.run1 (pure_move rfl) rfl ?_; refine TD.run1 (pure_extract rfl rfl) rfl ?_; refine TD.run1 (pure_extract rfl rfl) rfl ?_; refine TD.run1 (pure_assign rfl) rfl ?_; refine TD.run1 (pure_assign rfl) rfl ?_; refine TD.nil' ?_; refine TC.seq ?_; refine TC.region ?_; refine TL.run1 (pure_move rfl) rfl ?_; refine TL.nil' ?_
            first | refine TC.condD rfl (fun hc76 => ?_) (fun hc76 => ?_) | refine TC.condN rfl (fun hc76 => ?_) (fun hc76 => ?_) | refine TC.cond rfl (fun hc76 => ?_) (fun hc76 => ?_)
            · try dsimp only at hc76
              have hfn : 0 ≤ findN (l.take i) (yAt l i).kind (yAt l i).name := by simpa using hc76
              refine TC.seq ?_; refine TC.region ?_; refine TL.run1 (pure_assign rfl) rfl ?_; refine TL.nil' ?_; refine TC.ret ?_; refine then_ret ?_
              exact ret_int rfl (by unfold ownE; rw [if_neg hc14, if_neg hc23, if_neg hc37, if_neg hc51, if_neg hnm, if_pos hfn])
            · try dsimp only at hc76
              have hfn : ¬ 0 ≤ findN (l.take i) (yAt l i).kind (yAt l i).name := by simpa using hc76
              refine TC.skip' ?_; refine TC.seq ?_; refine TC.seq ?_; refine TC.region ?_
              first | refine TL.run1 (pure_fieldAddr Ty.f28_5 rfl (.succ (.succ (.succ (.succ (.succ (.zero _)))))) (List.cons_ne_nil _ _)) rfl ?_ | refine TL.run1 (pure_fieldAddr_own Ty.f28_5 rfl) rfl ?_
              first | refine TL.run1 (pure_load1 Ty.one26 rfl) rfl ?_ | refine TL.run1 (pure_load1_own Ty.one26 rfl (by repeat (first | exact List.Mem.head _ | apply List.Mem.tail)) (by repeat (first | exact DropR.zero _ | apply DropR.succ))) rfl ?_
              first | refine TL.run1 (pure_len Ty.sl26 rfl) rfl ?_ | refine TL.run1 (pure_len_row Ty.sl26 rfl (by repeat (first | exact List.Mem.head _ | apply List.Mem.tail))) rfl ?_ | refine TL.run1 (pure_len_nil Ty.sl26 rfl) rfl ?_
              refine TL.run1 (pure_move rfl) rfl ?_; refine TL.nil' ?_; refine TC.block ?_; refine TC.loopX (X := Nat) (fun k => [(5, .v (.pointer (some ⟨g5, 0, none⟩))), (78, .sl 2 (encP (yAt l i).props)), (79, .v (.int .i64 (encP (yAt l i).props).length)), (80, .v (.int .i64 k))]) (fun k => [.box g5 28 [.v (.int .i64 (yAt l i).id), .v (.int .i64 (yAt l i).kind), .v (.string (yAt l i).name), .v (.int .i64 (yAt l i).base), .v (.int .i64 (yAt l i).next), .sl 2 (encP (yAt l i).props)]]) (fun k => (k ≤ (yAt l i).props.length) ∧ (∀ j : Nat, j < k → ¬ ((pAt (yAt l i).props j).1 = 20 ∨ (pAt (yAt l i).props j).1 = 1))) (fun k => (yAt l i).props.length - k) (0) ⟨by skip; repeat (first | exact Agree.nil | refine Agree.cons rfl ?_), by skip; repeat (first | exact List.nil_sublist _ | exact List.Sublist.refl _ | apply List.Sublist.cons_cons | apply List.Sublist.cons)⟩ ?_ ?_
              · skip
                exact ⟨Nat.zero_le _, fun j h => by omega⟩
              intro k
              rintro ⟨h1, h2⟩
              show TC _ _ _ (Env.of [(5, .v (.pointer (some ⟨g5, 0, none⟩))), (78, .sl 2 (encP (yAt l i).props)), (79, .v (.int .i64 (encP (yAt l i).props).length)), (80, .v (.int .i64 k))]) [.box g5 28 [.v (.int .i64 (yAt l i).id), .v (.int .i64 (yAt l i).kind), .v (.string (yAt l i).name), .v (.int .i64 (yAt l i).base), .v (.int .i64 (yAt l i).next), .sl 2 (encP (yAt l i).props)]]
              refine TC.seq ?_; refine TC.region ?_; refine TL.run1 (pure_lss rfl rfl) rfl ?_; refine TL.nil' ?_; refine TC.seq ?_
              first | refine TC.condD rfl (fun hc81 => ?_) (fun hc81 => ?_) | refine TC.condN rfl (fun hc81 => ?_) (fun hc81 => ?_) | refine TC.cond rfl (fun hc81 => ?_) (fun hc81 => ?_)
              · try dsimp only at hc81
                refine TC.skip' ?_; refine TC.seq ?_; refine TC.block ?_; refine TC.seq ?_
                have hkl : k < (yAt l i).props.length := by omega
                have hrw := encP_getN (yAt l i).props k hkl
                refine TC.region ?_; refine TL.run1 (pure_indexAddr Ty.sl26 rfl rfl (by omega) hrw (List.cons_ne_nil _ _)) rfl ?_
                first | refine TL.run1 (pure_load Ty.agg38 rfl (.succ (.succ (.zero _)))) rfl ?_ | refine TL.run1 (pure_load_own Ty.agg38 rfl (by repeat (first | exact List.Mem.head _ | apply List.Mem.tail)) (by repeat (first | exact DropR.zero _ | apply DropR.succ)) (.succ (.succ (.zero _)))) rfl ?_
                refine TL.alloc Ty.zero38 rfl (fun g9 => ?_)
                refine TL.store rfl rfl (.agg _) Try.sizeOf38 rfl (by repeat (first | exact UpdR.here _ | apply UpdR.there)) (by repeat (first | exact PutR.nil _ | apply PutR.here | apply PutR.skip)) ?_; refine TL.nil' ?_; refine TC.regionCut [84, 85, 86, 87, 88, 89, 90, 91] 91 ((pAt (yAt l i).props k).1 = 20 ∨ (pAt (yAt l i).props k).1 = 1) ?_ ?_
                · skip
                  first | refine TL.run1 (pure_fieldAddr Ty.f38_0 rfl (.zero _) (List.cons_ne_nil _ _)) rfl ?_ | refine TL.run1 (pure_fieldAddr_own Ty.f38_0 rfl) rfl ?_
                  first | refine TL.run1 (pure_load1 Ty.one3 rfl) rfl ?_ | refine TL.run1 (pure_load1_own Ty.one3 rfl (by repeat (first | exact List.Mem.head _ | apply List.Mem.tail)) (by repeat (first | exact DropR.zero _ | apply DropR.succ))) rfl ?_
                  refine TL.run1 (pure_eql rfl rfl) rfl ?_; refine TL.run1 (pure_move rfl) rfl ?_
                  first | refine TL.splitP 87 rfl (fun hg87 => ?_) (fun hg87 => ?_) | refine TL.split 87 rfl (fun hg87 => ?_) (fun hg87 => ?_)
                  · try dsimp only at hg87
                    refine TL.passG rfl rfl rfl rfl ?_; refine TL.passG rfl rfl rfl rfl ?_; refine TL.passG rfl rfl rfl rfl ?_; refine TL.run1 (pure_pick_true rfl rfl) rfl ?_; refine TL.cutEnd (by repeat (first | exact Same.refl _ _ | refine Same.put rfl ?_)) rfl ?_
                    first | (simp only [decide_eq_true_eq]; omega) | (simp_all; done) | (simp_all; omega) | grind
                  · try dsimp only at hg87
                    first | refine TL.runG rfl rfl (pure_fieldAddr Ty.f38_0 rfl (.zero _) (List.cons_ne_nil _ _)) rfl ?_ | refine TL.runG rfl rfl (pure_fieldAddr_own Ty.f38_0 rfl) rfl ?_
                    first | refine TL.runG rfl rfl (pure_load1 Ty.one3 rfl) rfl ?_ | refine TL.runG rfl rfl (pure_load1_own Ty.one3 rfl (by repeat (first | exact List.Mem.head _ | apply List.Mem.tail)) (by repeat (first | exact DropR.zero _ | apply DropR.succ))) rfl ?_
                    refine TL.runG rfl rfl (pure_eql rfl rfl) rfl ?_; refine TL.run1 (pure_pick_false rfl rfl) rfl ?_; refine TL.cutEnd (by repeat (first | exact Same.refl _ _ | refine Same.put rfl ?_)) rfl ?_
                    first | (simp only [decide_eq_true_eq]; omega) | (simp_all; done) | (simp_all; omega) | grind
                first | refine TC.condD rfl (fun hc91 => ?_) (fun hc91 => ?_) | refine TC.condN rfl (fun hc91 => ?_) (fun hc91 => ?_) | refine TC.cond rfl (fun hc91 => ?_) (fun hc91 => ?_)
                · try dsimp only at hc91
                  refine TC.seq ?_; refine TC.region ?_; refine TL.run1 (pure_assign rfl) rfl ?_; refine TL.nil' ?_; refine TC.ret ?_; refine block_ret ?_; refine then_ret ?_; refine loop_ret ?_; refine block_ret ?_; refine then_ret ?_
                  have hh : hasP (yAt l i).props 20 = true ∨ hasP (yAt l i).props 1 = true := by (rcases hc91 with h | h; exact .inl (hasP_at _ _ hkl _ h); exact .inr (hasP_at _ _ hkl _ h))
                  exact ret_int rfl (by unfold ownE; rw [if_neg hc14, if_neg hc23, if_neg hc37, if_neg hc51, if_neg hnm, if_neg hfn, if_pos hh])
                · try dsimp only at hc91
                  refine TC.skip ?_; refine block_normal ?_; refine then_normal ?_; refine TC.region ?_; refine TL.run1 (pure_add rfl rfl (mkI64 (by omega) (by omega))) rfl ?_; refine TL.run1 (pure_move rfl) rfl ?_; refine TL.nil ?_
                  refine loop_next (k + 1) ⟨by ((try dsimp only); rw [show (((k + 1 : Nat)) : Int) = (k : Int) + 1 by omega]; repeat (first | exact Agree.nil | refine Agree.cons rfl ?_)), by repeat (first | exact List.nil_sublist _ | exact List.Sublist.refl _ | apply List.Sublist.cons_cons | apply List.Sublist.cons)⟩ ⟨by omega, fun j h => by rcases Nat.lt_or_eq_of_le (Nat.le_of_lt_succ h) with h | h; exact h2 j h; subst h; exact hc91⟩ (by omega)
              · try dsimp only at hc81
                refine TC.exit ?_; refine then_exit ?_; refine loop_exit ?_; refine block_here ?_; refine then_normal ?_; refine TC.seq ?_; refine TC.draw Ty.follows (by kernel_rfl) ?_
                first | refine TD.run1 (pure_fieldAddr Ty.f28_1 rfl (.succ (.zero _)) (List.cons_ne_nil _ _)) rfl ?_ | refine TD.run1 (pure_fieldAddr_own Ty.f28_1 rfl) rfl ?_
                first | refine TD.run1 (pure_load1 Ty.one3 rfl) rfl ?_ | refine TD.run1 (pure_load1_own Ty.one3 rfl (by repeat (first | exact List.Mem.head _ | apply List.Mem.tail)) (by repeat (first | exact DropR.zero _ | apply DropR.succ))) rfl ?_
                refine TD.run1 (pure_call (element_spec (yAt l i).kind) (.cons rfl .nil) Try.call69) rfl ?_
                first | refine TD.run1 (pure_fieldAddr Ty.f28_5 rfl (.succ (.succ (.succ (.succ (.succ (.zero _)))))) (List.cons_ne_nil _ _)) rfl ?_ | refine TD.run1 (pure_fieldAddr_own Ty.f28_5 rfl) rfl ?_
                first | refine TD.run1 (pure_load1 Ty.one26 rfl) rfl ?_ | refine TD.run1 (pure_load1_own Ty.one26 rfl (by repeat (first | exact List.Mem.head _ | apply List.Mem.tail)) (by repeat (first | exact DropR.zero _ | apply DropR.succ))) rfl ?_
                refine TD.run1 (pure_call (Check_spec _ (yAt l i).props hpz) (.cons rfl (.cons rfl .nil)) Try.call49) rfl ?_; refine TD.run1 (pure_assign rfl) rfl ?_; refine TD.nil' ?_; refine TC.ret ?_
                have hh : ¬ (hasP (yAt l i).props 20 = true ∨ hasP (yAt l i).props 1 = true) := by (rw [hasP_none _ 20 (fun j hj => fun e => h2 j (by omega) (.inl e)), hasP_none _ 1 (fun j hj => fun e => h2 j (by omega) (.inr e))]; simp)
                exact ret_int rfl (by unfold ownE; rw [if_neg hc14, if_neg hc23, if_neg hc37, if_neg hc51, if_neg hnm, if_neg hfn, if_neg hh])
end Go.Ob
set_option linter.unusedVariables false
set_option linter.unusedSimpArgs false
namespace Go.Ob
open Go.Proofs

theorem fiN_split (p : Sty → Bool) (x : Sty) (r : List Sty) (hx : p x = true) : ∀ (a : List Sty) (s : Nat), (fiN p a s = -1 ∧ fiN p (a ++ x :: r) s = ((s + a.length : Nat) : Int)) ∨ (0 ≤ fiN p a s ∧ fiN p (a ++ x :: r) s = fiN p a s ∧ fiN p a s < ((s + a.length : Nat) : Int))
  | [], s => .inl ⟨rfl, by rw [List.nil_append, fiN, if_pos hx]; rfl⟩
  | y :: a, s => by
    rw [List.cons_append, fiN, fiN, List.length_cons]
    by_cases hy : p y = true
    · rw [if_pos hy, if_pos hy]; right; omega
    · rw [if_neg hy, if_neg hy]
      rcases fiN_split p x r hx a (s + 1) with ⟨h1, h2⟩ | ⟨h1, h2, h3⟩
      · left; rw [h2]; exact ⟨h1, by omega⟩
      · right; exact ⟨h1, h2, by omega⟩
theorem findN_lt (l : List Sty) (i : Nat) (h : i < l.length) : findN l (yAt l i).kind (yAt l i).name < (i : Int) ↔ 0 ≤ findN (l.take i) (yAt l i).kind (yAt l i).name := by
  have e : l = l.take i ++ (yAt l i) :: l.drop (i + 1) := by
    have h2 : l.drop i = (yAt l i) :: l.drop (i + 1) := by rw [List.drop_eq_getElem_cons h]; unfold yAt; simp [h]
    rw [← h2, List.take_append_drop]
  have hs := fiN_split (fun s => decide (s.kind = (yAt l i).kind ∧ s.name = (yAt l i).name)) (yAt l i) (l.drop (i + 1)) (by simp) (l.take i) 0
  rw [← e] at hs
  have hl : (l.take i).length = i := by rw [List.length_take]; omega
  unfold findN
  rw [hl] at hs
  omega
set_option maxHeartbeats 1000000 in
set_option maxRecDepth 100000 in
theorem Rown_spec (l : List Sty) (i : Nat) (hi : i < l.length) (hl : l.length ≤ 1000000) (hnz : (yAt l i).name.size ≤ 1000000000) (hpz : (yAt l i).props.length ≤ 1000000) : Fun Try.prog 47 [.sl 6 (encSs l), .v (.int .i64 i)] (.v (.int .i64 (ownE l i))) := by
  refine Fun.enter (n := 90) (rs := [.tmp 4]) Try.func47 rfl Try.ntmps47 Try.results47 rfl (fun w F => ?_)
  have hk := encSs_len l
  have hrow := encSs_get l i hi
  have hpl := encP_len (yAt l i).props
  have hflt := findN_lt l i hi
  refine TC.seq ?_; refine TC.region ?_; refine TL.run1 (pure_assign rfl) rfl ?_; refine TL.nil' ?_; refine TC.seq ?_; refine TC.region ?_; refine TL.run1 (pure_move rfl) rfl ?_; refine TL.run1 (pure_move rfl) rfl ?_; refine TL.run1 (pure_indexAddr Ty.sl22 rfl rfl (by omega) hrow (List.cons_ne_nil _ _)) rfl ?_
  first | refine TL.run1 (pure_load Ty.agg28 rfl (.succ (.succ (.succ (.succ (.succ (.succ (.zero _)))))))) rfl ?_ | refine TL.run1 (pure_load_own Ty.agg28 rfl (by repeat (first | exact List.Mem.head _ | apply List.Mem.tail)) (by repeat (first | exact DropR.zero _ | apply DropR.succ)) (.succ (.succ (.succ (.succ (.succ (.succ (.zero _)))))))) rfl ?_
  refine TL.alloc Ty.zero28 rfl (fun g5 => ?_)
  refine TL.store rfl rfl (.agg _) Try.sizeOf28 rfl (by repeat (first | exact UpdR.here _ | apply UpdR.there)) (by repeat (first | exact PutR.nil _ | apply PutR.here | apply PutR.skip)) ?_; refine TL.nil' ?_; refine TC.seq ?_; refine TC.regionCut [14, 15, 16, 17, 18, 19, 20, 21] 21 ((yAt l i).id < 1 ∨ (yAt l i).id > 1073741824) ?_ ?_
  · skip
    first | refine TL.run1 (pure_fieldAddr Ty.f28_0 rfl (.zero _) (List.cons_ne_nil _ _)) rfl ?_ | refine TL.run1 (pure_fieldAddr_own Ty.f28_0 rfl) rfl ?_
    first | refine TL.run1 (pure_load1 Ty.one3 rfl) rfl ?_ | refine TL.run1 (pure_load1_own Ty.one3 rfl (by repeat (first | exact List.Mem.head _ | apply List.Mem.tail)) (by repeat (first | exact DropR.zero _ | apply DropR.succ))) rfl ?_
    refine TL.run1 (pure_lss rfl rfl) rfl ?_; refine TL.run1 (pure_move rfl) rfl ?_
    first | refine TL.splitP 17 rfl (fun hg17 => ?_) (fun hg17 => ?_) | refine TL.split 17 rfl (fun hg17 => ?_) (fun hg17 => ?_)
    · try dsimp only at hg17
      refine TL.passG rfl rfl rfl rfl ?_; refine TL.passG rfl rfl rfl rfl ?_; refine TL.passG rfl rfl rfl rfl ?_; refine TL.run1 (pure_pick_true rfl rfl) rfl ?_; refine TL.cutEnd (by repeat (first | exact Same.refl _ _ | refine Same.put rfl ?_)) rfl ?_
      first | (simp only [decide_eq_true_eq, Bool.false_eq_true, false_iff, true_iff, iff_true, iff_false, Bool.not_eq_true]; omega) | (simp_all; done) | (simp_all; omega) | grind
    · try dsimp only at hg17
      first | refine TL.runG rfl rfl (pure_fieldAddr Ty.f28_0 rfl (.zero _) (List.cons_ne_nil _ _)) rfl ?_ | refine TL.runG rfl rfl (pure_fieldAddr_own Ty.f28_0 rfl) rfl ?_
      first | refine TL.runG rfl rfl (pure_load1 Ty.one3 rfl) rfl ?_ | refine TL.runG rfl rfl (pure_load1_own Ty.one3 rfl (by repeat (first | exact List.Mem.head _ | apply List.Mem.tail)) (by repeat (first | exact DropR.zero _ | apply DropR.succ))) rfl ?_
      refine TL.runG rfl rfl (pure_gtr rfl rfl) rfl ?_; refine TL.run1 (pure_pick_false rfl rfl) rfl ?_; refine TL.cutEnd (by repeat (first | exact Same.refl _ _ | refine Same.put rfl ?_)) rfl ?_
      first | (simp only [decide_eq_true_eq, Bool.false_eq_true, false_iff, true_iff, iff_true, iff_false, Bool.not_eq_true]; omega) | (simp_all; done) | (simp_all; omega) | grind
  first | refine TC.condD rfl (fun hc21 => ?_) (fun hc21 => ?_) | refine TC.condN rfl (fun hc21 => ?_) (fun hc21 => ?_) | refine TC.cond rfl (fun hc21 => ?_) (fun hc21 => ?_)
  · try dsimp only at hc21
    refine TC.seq ?_; refine TC.region ?_; refine TL.run1 (pure_assign rfl) rfl ?_; refine TL.nil' ?_; refine TC.ret ?_; refine then_ret ?_
    exact ret_int rfl (by unfold ownE; rw [if_pos hc21])
  · try dsimp only at hc21
    refine TC.skip' ?_; refine TC.seq ?_; refine TC.drawCut [22, 23, 24, 25, 26, 27, 28, 29, 30, 31, 32, 33, 34] 34 (0 < (i : Int) ∧ (yAt l i).id = (yAt l (i - 1)).id) Ty.follows (by kernel_rfl) ?_ ?_
    · skip
      refine TD.run1 (pure_move rfl) rfl ?_; refine TD.run1 (pure_gtr rfl rfl) rfl ?_; refine TD.run1 (pure_move rfl) rfl ?_
      first | refine TD.splitP 24 rfl (fun hg24 => ?_) (fun hg24 => ?_) | refine TD.split 24 rfl (fun hg24 => ?_) (fun hg24 => ?_)
      · try dsimp only at hg24
        have hi0 : 0 < i := by (have h := hg24; first | omega | (simp only [decide_eq_true_eq] at h; omega))
        have hrp : (encSs l)[((i : Int) - 1).toNat]? = some [.v (.int .i64 (yAt l (i - 1)).id), .v (.int .i64 (yAt l (i - 1)).kind), .v (.string (yAt l (i - 1)).name), .v (.int .i64 (yAt l (i - 1)).base), .v (.int .i64 (yAt l (i - 1)).next), .sl 2 (encP (yAt l (i - 1)).props)] := by (rw [show ((i : Int) - 1) = ((i - 1 : Nat) : Int) by omega]; exact encSs_get l (i - 1) (by omega))
        first | refine TD.runG rfl rfl (pure_fieldAddr Ty.f28_0 rfl (.zero _) (List.cons_ne_nil _ _)) rfl ?_ | refine TD.runG rfl rfl (pure_fieldAddr_own Ty.f28_0 rfl) rfl ?_
        first | refine TD.runG rfl rfl (pure_load1 Ty.one3 rfl) rfl ?_ | refine TD.runG rfl rfl (pure_load1_own Ty.one3 rfl (by repeat (first | exact List.Mem.head _ | apply List.Mem.tail)) (by repeat (first | exact DropR.zero _ | apply DropR.succ))) rfl ?_
        refine TD.runG rfl rfl (pure_move rfl) rfl ?_; refine TD.runG rfl rfl (pure_move rfl) rfl ?_; refine TD.runG rfl rfl (pure_sub rfl rfl (mkI64 (by omega) (by omega))) rfl ?_; refine TD.runG rfl rfl (pure_indexAddr Ty.sl22 rfl rfl (by omega) hrp (List.cons_ne_nil _ _)) rfl ?_
        first | refine TD.runG rfl rfl (pure_fieldAddr Ty.f28_0 rfl (.zero _) (List.cons_ne_nil _ _)) rfl ?_ | refine TD.runG rfl rfl (pure_fieldAddr_own Ty.f28_0 rfl) rfl ?_
        first | refine TD.runG rfl rfl (pure_load1 Ty.one3 rfl) rfl ?_ | refine TD.runG rfl rfl (pure_load1_own Ty.one3 rfl (by repeat (first | exact List.Mem.head _ | apply List.Mem.tail)) (by repeat (first | exact DropR.zero _ | apply DropR.succ))) rfl ?_
        refine TD.runG rfl rfl (pure_eql rfl rfl) rfl ?_; refine TD.run1 (pure_pick_true rfl rfl) rfl ?_; refine TD.cutEnd (by repeat (first | exact Same.refl _ _ | refine Same.put rfl ?_)) rfl ?_
        first | (simp only [decide_eq_true_eq]; omega) | (simp_all; done) | (simp_all; omega) | grind
      · try dsimp only at hg24
        refine TD.passG rfl rfl rfl rfl ?_; refine TD.passG rfl rfl rfl rfl ?_; refine TD.passG rfl rfl rfl rfl ?_; refine TD.passG rfl rfl rfl rfl ?_; refine TD.passG rfl rfl rfl rfl ?_; refine TD.passG rfl rfl rfl rfl ?_; refine TD.passG rfl rfl rfl rfl ?_; refine TD.passG rfl rfl rfl rfl ?_; refine TD.passG rfl rfl rfl rfl ?_; refine TD.run1 (pure_pick_false rfl rfl) rfl ?_; refine TD.cutEnd (by repeat (first | exact Same.refl _ _ | refine Same.put rfl ?_)) rfl ?_
        first | (simp only [decide_eq_true_eq]; omega) | (simp_all; done) | (simp_all; omega) | grind
    first | refine TC.condD rfl (fun hc34 => ?_) (fun hc34 => ?_) | refine TC.condN rfl (fun hc34 => ?_) (fun hc34 => ?_) | refine TC.cond rfl (fun hc34 => ?_) (fun hc34 => ?_)
    · try dsimp only at hc34
      refine TC.seq ?_; refine TC.region ?_; refine TL.run1 (pure_assign rfl) rfl ?_; refine TL.nil' ?_; refine TC.ret ?_; refine then_ret ?_
      exact ret_int rfl (by unfold ownE; rw [if_neg hc21, if_pos hc34])
    · try dsimp only at hc34
      refine TC.skip' ?_; refine TC.seq ?_; refine TC.drawCut [35, 36, 37, 38, 39, 40, 41, 42, 43, 44, 45, 46, 47] 47 (0 < (i : Int) ∧ (yAt l i).id < (yAt l (i - 1)).id) Ty.follows (by kernel_rfl) ?_ ?_
      · skip
        refine TD.run1 (pure_move rfl) rfl ?_; refine TD.run1 (pure_gtr rfl rfl) rfl ?_; refine TD.run1 (pure_move rfl) rfl ?_
        first | refine TD.splitP 37 rfl (fun hg37 => ?_) (fun hg37 => ?_) | refine TD.split 37 rfl (fun hg37 => ?_) (fun hg37 => ?_)
        · try dsimp only at hg37
          have hi0 : 0 < i := by (have h := hg37; first | omega | (simp only [decide_eq_true_eq] at h; omega))
          have hrp : (encSs l)[((i : Int) - 1).toNat]? = some [.v (.int .i64 (yAt l (i - 1)).id), .v (.int .i64 (yAt l (i - 1)).kind), .v (.string (yAt l (i - 1)).name), .v (.int .i64 (yAt l (i - 1)).base), .v (.int .i64 (yAt l (i - 1)).next), .sl 2 (encP (yAt l (i - 1)).props)] := by (rw [show ((i : Int) - 1) = ((i - 1 : Nat) : Int) by omega]; exact encSs_get l (i - 1) (by omega))
          first | refine TD.runG rfl rfl (pure_fieldAddr Ty.f28_0 rfl (.zero _) (List.cons_ne_nil _ _)) rfl ?_ | refine TD.runG rfl rfl (pure_fieldAddr_own Ty.f28_0 rfl) rfl ?_
          first | refine TD.runG rfl rfl (pure_load1 Ty.one3 rfl) rfl ?_ | refine TD.runG rfl rfl (pure_load1_own Ty.one3 rfl (by repeat (first | exact List.Mem.head _ | apply List.Mem.tail)) (by repeat (first | exact DropR.zero _ | apply DropR.succ))) rfl ?_
          refine TD.runG rfl rfl (pure_move rfl) rfl ?_; refine TD.runG rfl rfl (pure_move rfl) rfl ?_; refine TD.runG rfl rfl (pure_sub rfl rfl (mkI64 (by omega) (by omega))) rfl ?_; refine TD.runG rfl rfl (pure_indexAddr Ty.sl22 rfl rfl (by omega) hrp (List.cons_ne_nil _ _)) rfl ?_
          first | refine TD.runG rfl rfl (pure_fieldAddr Ty.f28_0 rfl (.zero _) (List.cons_ne_nil _ _)) rfl ?_ | refine TD.runG rfl rfl (pure_fieldAddr_own Ty.f28_0 rfl) rfl ?_
          first | refine TD.runG rfl rfl (pure_load1 Ty.one3 rfl) rfl ?_ | refine TD.runG rfl rfl (pure_load1_own Ty.one3 rfl (by repeat (first | exact List.Mem.head _ | apply List.Mem.tail)) (by repeat (first | exact DropR.zero _ | apply DropR.succ))) rfl ?_
          refine TD.runG rfl rfl (pure_lss rfl rfl) rfl ?_; refine TD.run1 (pure_pick_true rfl rfl) rfl ?_; refine TD.cutEnd (by repeat (first | exact Same.refl _ _ | refine Same.put rfl ?_)) rfl ?_
          first | (simp only [decide_eq_true_eq]; omega) | (simp_all; done) | (simp_all; omega) | grind
        · try dsimp only at hg37
          refine TD.passG rfl rfl rfl rfl ?_; refine TD.passG rfl rfl rfl rfl ?_; refine TD.passG rfl rfl rfl rfl ?_; refine TD.passG rfl rfl rfl rfl ?_; refine TD.passG rfl rfl rfl rfl ?_; refine TD.passG rfl rfl rfl rfl ?_; refine TD.passG rfl rfl rfl rfl ?_; refine TD.passG rfl rfl rfl rfl ?_; refine TD.passG rfl rfl rfl rfl ?_; refine TD.run1 (pure_pick_false rfl rfl) rfl ?_; refine TD.cutEnd (by repeat (first | exact Same.refl _ _ | refine Same.put rfl ?_)) rfl ?_
          first | (simp only [decide_eq_true_eq]; omega) | (simp_all; done) | (simp_all; omega) | grind
      first | refine TC.condD rfl (fun hc47 => ?_) (fun hc47 => ?_) | refine TC.condN rfl (fun hc47 => ?_) (fun hc47 => ?_) | refine TC.cond rfl (fun hc47 => ?_) (fun hc47 => ?_)
      · try dsimp only at hc47
        refine TC.seq ?_; refine TC.region ?_; refine TL.run1 (pure_assign rfl) rfl ?_; refine TL.nil' ?_; refine TC.ret ?_; refine then_ret ?_
        exact ret_int rfl (by unfold ownE; rw [if_neg hc21, if_neg hc34, if_pos hc47])
      · try dsimp only at hc47
        refine TC.skip' ?_; refine TC.seq ?_; refine TC.regionCut [48, 49, 50, 51, 52, 53, 54, 55] 55 ((yAt l i).kind ≠ 1 ∧ (yAt l i).kind ≠ 2) ?_ ?_
        · skip
          first | refine TL.run1 (pure_fieldAddr Ty.f28_1 rfl (.succ (.zero _)) (List.cons_ne_nil _ _)) rfl ?_ | refine TL.run1 (pure_fieldAddr_own Ty.f28_1 rfl) rfl ?_
          first | refine TL.run1 (pure_load1 Ty.one3 rfl) rfl ?_ | refine TL.run1 (pure_load1_own Ty.one3 rfl (by repeat (first | exact List.Mem.head _ | apply List.Mem.tail)) (by repeat (first | exact DropR.zero _ | apply DropR.succ))) rfl ?_
          refine TL.run1 (pure_neq rfl rfl) rfl ?_; refine TL.run1 (pure_move rfl) rfl ?_
          first | refine TL.splitP 51 rfl (fun hg51 => ?_) (fun hg51 => ?_) | refine TL.split 51 rfl (fun hg51 => ?_) (fun hg51 => ?_)
          · try dsimp only at hg51
            first | refine TL.runG rfl rfl (pure_fieldAddr Ty.f28_1 rfl (.succ (.zero _)) (List.cons_ne_nil _ _)) rfl ?_ | refine TL.runG rfl rfl (pure_fieldAddr_own Ty.f28_1 rfl) rfl ?_
            first | refine TL.runG rfl rfl (pure_load1 Ty.one3 rfl) rfl ?_ | refine TL.runG rfl rfl (pure_load1_own Ty.one3 rfl (by repeat (first | exact List.Mem.head _ | apply List.Mem.tail)) (by repeat (first | exact DropR.zero _ | apply DropR.succ))) rfl ?_
            refine TL.runG rfl rfl (pure_neq rfl rfl) rfl ?_; refine TL.run1 (pure_pick_true rfl rfl) rfl ?_; refine TL.cutEnd (by repeat (first | exact Same.refl _ _ | refine Same.put rfl ?_)) rfl ?_
            first | (simp only [decide_eq_true_eq, Bool.false_eq_true, false_iff, true_iff, iff_true, iff_false, Bool.not_eq_true]; omega) | (simp_all; done) | (simp_all; omega) | grind
          · try dsimp only at hg51
            refine TL.passG rfl rfl rfl rfl ?_; refine TL.passG rfl rfl rfl rfl ?_; refine TL.passG rfl rfl rfl rfl ?_; refine TL.run1 (pure_pick_false rfl rfl) rfl ?_; refine TL.cutEnd (by repeat (first | exact Same.refl _ _ | refine Same.put rfl ?_)) rfl ?_
            first | (simp only [decide_eq_true_eq, Bool.false_eq_true, false_iff, true_iff, iff_true, iff_false, Bool.not_eq_true]; omega) | (simp_all; done) | (simp_all; omega) | grind
        first | refine TC.condD rfl (fun hc55 => ?_) (fun hc55 => ?_) | refine TC.condN rfl (fun hc55 => ?_) (fun hc55 => ?_) | refine TC.cond rfl (fun hc55 => ?_) (fun hc55 => ?_)
        · try dsimp only at hc55
          refine TC.seq ?_; refine TC.region ?_; refine TL.run1 (pure_assign rfl) rfl ?_; refine TL.nil' ?_; refine TC.ret ?_; refine then_ret ?_
          exact ret_int rfl (by unfold ownE; rw [if_neg hc21, if_neg hc34, if_neg hc47, if_pos hc55])
        · try dsimp only at hc55
          refine TC.skip' ?_; refine TC.seq ?_; refine TC.seq ?_; refine TC.region ?_
          first | refine TL.run1 (pure_fieldAddr Ty.f28_2 rfl (.succ (.succ (.zero _))) (List.cons_ne_nil _ _)) rfl ?_ | refine TL.run1 (pure_fieldAddr_own Ty.f28_2 rfl) rfl ?_
          first | refine TL.run1 (pure_load1 Ty.one9 rfl) rfl ?_ | refine TL.run1 (pure_load1_own Ty.one9 rfl (by repeat (first | exact List.Mem.head _ | apply List.Mem.tail)) (by repeat (first | exact DropR.zero _ | apply DropR.succ))) rfl ?_
          refine TL.run1 (pure_call (RIsName_spec (yAt l i).name hnz) (.cons rfl .nil) Try.call18) rfl ?_; refine TL.run1 (pure_not rfl) rfl ?_; refine TL.nil' ?_
          first | refine TC.condD rfl (fun hc59 => ?_) (fun hc59 => ?_) | refine TC.condN rfl (fun hc59 => ?_) (fun hc59 => ?_) | refine TC.cond rfl (fun hc59 => ?_) (fun hc59 => ?_)
          · try dsimp only at hc59
            have hnm : ¬ NameP (yAt l i).name := by simpa using hc59
            refine TC.seq ?_; refine TC.region ?_; refine TL.run1 (pure_assign rfl) rfl ?_; refine TL.nil' ?_; refine TC.ret ?_; refine then_ret ?_
            exact ret_int rfl (by unfold ownE; rw [if_neg hc21, if_neg hc34, if_neg hc47, if_neg hc55, if_pos hnm])
          · try dsimp only at hc59
            have hnm : ¬ ¬ NameP (yAt l i).name := by simpa using hc59
            refine TC.skip' ?_; refine TC.seq ?_; refine TC.seq ?_; refine TC.region ?_; refine TL.run1 (pure_move rfl) rfl ?_
            first | refine TL.run1 (pure_fieldAddr Ty.f28_1 rfl (.succ (.zero _)) (List.cons_ne_nil _ _)) rfl ?_ | refine TL.run1 (pure_fieldAddr_own Ty.f28_1 rfl) rfl ?_
            first | refine TL.run1 (pure_load1 Ty.one3 rfl) rfl ?_ | refine TL.run1 (pure_load1_own Ty.one3 rfl (by repeat (first | exact List.Mem.head _ | apply List.Mem.tail)) (by repeat (first | exact DropR.zero _ | apply DropR.succ))) rfl ?_
            first | refine TL.run1 (pure_fieldAddr Ty.f28_2 rfl (.succ (.succ (.zero _))) (List.cons_ne_nil _ _)) rfl ?_ | refine TL.run1 (pure_fieldAddr_own Ty.f28_2 rfl) rfl ?_
            first | refine TL.run1 (pure_load1 Ty.one9 rfl) rfl ?_ | refine TL.run1 (pure_load1_own Ty.one9 rfl (by repeat (first | exact List.Mem.head _ | apply List.Mem.tail)) (by repeat (first | exact DropR.zero _ | apply DropR.succ))) rfl ?_
            refine TL.run1 (pure_call (RFindName_spec l (yAt l i).kind (yAt l i).name hl) (.cons rfl (.cons rfl (.cons rfl .nil))) Try.call27) rfl ?_; refine TL.run1 (pure_move rfl) rfl ?_; refine TL.run1 (pure_lss rfl rfl) rfl ?_; refine TL.nil' ?_
            first | refine TC.condD rfl (fun hc67 => ?_) (fun hc67 => ?_) | refine TC.condN rfl (fun hc67 => ?_) (fun hc67 => ?_) | refine TC.cond rfl (fun hc67 => ?_) (fun hc67 => ?_)
            · try dsimp only at hc67
              have hfn := hflt.1 (by simpa using hc67)
              refine TC.seq ?_; refine TC.region ?_; refine TL.run1 (pure_assign rfl) rfl ?_; refine TL.nil' ?_; refine TC.ret ?_; refine then_ret ?_
              exact ret_int rfl (by unfold ownE; rw [if_neg hc21, if_neg hc34, if_neg hc47, if_neg hc55, if_neg hnm, if_pos hfn])
            · try dsimp only at hc67
              have hfn : ¬ 0 ≤ findN (l.take i) (yAt l i).kind (yAt l i).name := fun h => hc67 (by have := hflt.2 h; simpa using this)
              refine TC.skip' ?_; refine TC.seq ?_; refine TC.region ?_
              first | refine TL.run1 (pure_fieldAddr Ty.f28_5 rfl (.succ (.succ (.succ (.succ (.succ (.zero _)))))) (List.cons_ne_nil _ _)) rfl ?_ | refine TL.run1 (pure_fieldAddr_own Ty.f28_5 rfl) rfl ?_
              first | refine TL.run1 (pure_load1 Ty.one26 rfl) rfl ?_ | refine TL.run1 (pure_load1_own Ty.one26 rfl (by repeat (first | exact List.Mem.head _ | apply List.Mem.tail)) (by repeat (first | exact DropR.zero _ | apply DropR.succ))) rfl ?_
              first | refine TL.run1 (pure_call (R8Get_spec (yAt l i).props 20 hpz) (.cons rfl (.cons rfl .nil)) Try.call20) rfl ?_ | refine TL.run1 (pure_call (R8Get_spec (yAt l i).props 1 hpz) (.cons rfl (.cons rfl .nil)) Try.call20) rfl ?_
              refine TL.run1 (pure_move rfl) rfl ?_; refine TL.run1 (pure_extract rfl rfl) rfl ?_; refine TL.run1 (pure_extract rfl rfl) rfl ?_; refine TL.run1 (pure_assign rfl) rfl ?_; refine TL.run1 (pure_assign rfl) rfl ?_; refine TL.nil' ?_; refine TC.seq ?_; refine TC.region ?_
              first | refine TL.run1 (pure_fieldAddr Ty.f28_5 rfl (.succ (.succ (.succ (.succ (.succ (.zero _)))))) (List.cons_ne_nil _ _)) rfl ?_ | refine TL.run1 (pure_fieldAddr_own Ty.f28_5 rfl) rfl ?_
              first | refine TL.run1 (pure_load1 Ty.one26 rfl) rfl ?_ | refine TL.run1 (pure_load1_own Ty.one26 rfl (by repeat (first | exact List.Mem.head _ | apply List.Mem.tail)) (by repeat (first | exact DropR.zero _ | apply DropR.succ))) rfl ?_
              first | refine TL.run1 (pure_call (R8Get_spec (yAt l i).props 20 hpz) (.cons rfl (.cons rfl .nil)) Try.call20) rfl ?_ | refine TL.run1 (pure_call (R8Get_spec (yAt l i).props 1 hpz) (.cons rfl (.cons rfl .nil)) Try.call20) rfl ?_
              refine TL.run1 (pure_move rfl) rfl ?_; refine TL.run1 (pure_extract rfl rfl) rfl ?_; refine TL.run1 (pure_extract rfl rfl) rfl ?_; refine TL.run1 (pure_assign rfl) rfl ?_; refine TL.run1 (pure_assign rfl) rfl ?_; refine TL.nil' ?_; refine TC.seq ?_; refine TC.regionCut [80, 81, 82, 83] 83 (hasP (yAt l i).props 20 = true ∨ hasP (yAt l i).props 1 = true) ?_ ?_
              · skip
                refine TL.run1 (pure_move rfl) rfl ?_; refine TL.run1 (pure_move rfl) rfl ?_
                first | refine TL.splitP 81 rfl (fun hg81 => ?_) (fun hg81 => ?_) | refine TL.split 81 rfl (fun hg81 => ?_) (fun hg81 => ?_)
                · try dsimp only at hg81
                  refine TL.passG rfl rfl rfl rfl ?_; refine TL.run1 (pure_pick_true rfl rfl) rfl ?_; refine TL.cutEnd (by repeat (first | exact Same.refl _ _ | refine Same.put rfl ?_)) rfl ?_
                  first | (simp_all; done) | grind
                · try dsimp only at hg81
                  refine TL.runG rfl rfl (pure_move rfl) rfl ?_; refine TL.run1 (pure_pick_false rfl rfl) rfl ?_; refine TL.cutEnd (by repeat (first | exact Same.refl _ _ | refine Same.put rfl ?_)) rfl ?_
                  first | (simp_all; done) | grind
              first | refine TC.condD rfl (fun hc83 => ?_) (fun hc83 => ?_) | refine TC.condN rfl (fun hc83 => ?_) (fun hc83 => ?_) | refine TC.cond rfl (fun hc83 => ?_) (fun hc83 => ?_)
              · try dsimp only at hc83
                refine TC.seq ?_; refine TC.region ?_; refine TL.run1 (pure_assign rfl) rfl ?_; refine TL.nil' ?_; refine TC.ret ?_; refine then_ret ?_
                exact ret_int rfl (by unfold ownE; rw [if_neg hc21, if_neg hc34, if_neg hc47, if_neg hc55, if_neg hnm, if_neg hfn, if_pos hc83])
              · try dsimp only at hc83
                refine TC.skip' ?_; refine TC.seq ?_; refine TC.draw Ty.follows (by kernel_rfl) ?_
                first | refine TD.run1 (pure_fieldAddr Ty.f28_1 rfl (.succ (.zero _)) (List.cons_ne_nil _ _)) rfl ?_ | refine TD.run1 (pure_fieldAddr_own Ty.f28_1 rfl) rfl ?_
                first | refine TD.run1 (pure_load1 Ty.one3 rfl) rfl ?_ | refine TD.run1 (pure_load1_own Ty.one3 rfl (by repeat (first | exact List.Mem.head _ | apply List.Mem.tail)) (by repeat (first | exact DropR.zero _ | apply DropR.succ))) rfl ?_
                refine TD.run1 (pure_call (RElement_spec (yAt l i).kind) (.cons rfl .nil) Try.call71) rfl ?_
                first | refine TD.run1 (pure_fieldAddr Ty.f28_5 rfl (.succ (.succ (.succ (.succ (.succ (.zero _)))))) (List.cons_ne_nil _ _)) rfl ?_ | refine TD.run1 (pure_fieldAddr_own Ty.f28_5 rfl) rfl ?_
                first | refine TD.run1 (pure_load1 Ty.one26 rfl) rfl ?_ | refine TD.run1 (pure_load1_own Ty.one26 rfl (by repeat (first | exact List.Mem.head _ | apply List.Mem.tail)) (by repeat (first | exact DropR.zero _ | apply DropR.succ))) rfl ?_
                refine TD.run1 (pure_call (RCheck_spec _ (yAt l i).props hpz) (.cons rfl (.cons rfl .nil)) Try.call56) rfl ?_; refine TD.run1 (pure_assign rfl) rfl ?_; refine TD.nil' ?_; refine TC.ret ?_
                exact ret_int rfl (by unfold ownE; rw [if_neg hc21, if_neg hc34, if_neg hc47, if_neg hc55, if_neg hnm, if_neg hfn, if_neg hc83])
end Go.Ob
set_option linter.unusedVariables false
set_option linter.unusedSimpArgs false
namespace Go.Ob
open Go.Proofs
/-! ### maps from ints to ints -/
abbrev IM := List (Int × Int)
def lookI (m : IM) (k : Int) : Option Int := match m with
  | [] => none
  | p :: m => if p.1 = k then some p.2 else lookI m k
def insI (m : IM) (k : Int) (v : Int) : IM := match m with
  | [] => [(k, v)]
  | p :: m => if p.1 = k then (k, v) :: m else p :: insI m k v
def keysI (m : IM) : List Value := m.map fun p => .int .i64 p.1
def valsI (m : IM) : List D := m.map fun p => .v (.int .i64 p.2)
def isInt (v : Value) : Prop := ∃ n, v = .int .i64 n
def NodupI (m : IM) : Prop := (m.map (·.1)).Nodup
theorem intV_inj {a b : Int} (h : Value.int .i64 a = .int .i64 b) : a = b := by injection h
theorem keysI_good (m : IM) : ∀ k ∈ keysI m, isInt k := by
  intro k hk
  simp only [keysI, List.mem_map] at hk
  obtain ⟨p, _, rfl⟩ := hk
  exact ⟨_, rfl⟩
theorem NodupI.keys {m : IM} (h : NodupI m) : (keysI m).Nodup := by
  unfold NodupI at h
  unfold keysI
  induction m with
  | nil => simp
  | cons p m ih =>
    simp only [List.map_cons, List.nodup_cons] at h ⊢
    refine ⟨fun hm => h.1 ?_, ih h.2⟩
    simp only [List.mem_map] at hm ⊢
    obtain ⟨q, hq, he⟩ := hm
    exact ⟨q, hq, intV_inj he⟩
theorem lookI_rel (m : IM) (k : Int) : LookR (.int .i64 k) (keysI m) (valsI m) ((lookI m k).map fun n => .v (.int .i64 n)) := by
  induction m with
  | nil => exact .nil
  | cons p m ih =>
    unfold lookI
    by_cases hp : p.1 = k
    · rw [if_pos hp]
      subst hp
      exact .here
    · rw [if_neg hp]
      exact .there (fun e => hp (intV_inj e)) ih
theorem insI_rel (m : IM) (k : Int) (v : Int) : SetR (.int .i64 k) (.v (.int .i64 v)) (keysI m) (valsI m) (keysI (insI m k v)) (valsI (insI m k v)) := by
  induction m with
  | nil => exact .nil
  | cons p m ih =>
    unfold insI
    by_cases hp : p.1 = k
    · rw [if_pos hp]
      subst hp
      exact .here
    · rw [if_neg hp]
      exact .there (fun e => hp (intV_inj e)) ih
theorem memI_ins {m : IM} {k v : Int} {p : Int × Int} (h : p ∈ insI m k v) : p = (k, v) ∨ p ∈ m := by
  induction m with
  | nil => simpa [insI] using h
  | cons q m ih =>
    unfold insI at h
    by_cases hq : q.1 = k
    · rw [if_pos hq] at h
      rcases List.mem_cons.1 h with h | h
      · exact .inl h
      · exact .inr (by simp [h])
    · rw [if_neg hq] at h
      rcases List.mem_cons.1 h with h | h
      · exact .inr (by simp [h])
      · exact (ih h).imp id (fun h => by simp [h])
theorem NodupI.ins {m : IM} (h : NodupI m) (k v : Int) : NodupI (insI m k v) := by
  unfold NodupI at *
  induction m with
  | nil => simp [insI]
  | cons q m ih =>
    simp only [List.map_cons, List.nodup_cons] at h
    unfold insI
    by_cases hq : q.1 = k
    · rw [if_pos hq]
      subst hq
      simp only [List.map_cons, List.nodup_cons]
      exact h
    · rw [if_neg hq]
      simp only [List.map_cons, List.nodup_cons]
      refine ⟨fun hm => ?_, ih h.2⟩
      simp only [List.mem_map] at hm
      obtain ⟨p, hp, he⟩ := hm
      rcases memI_ins hp with h1 | h1
      · subst h1; exact hq he.symm
      · exact h.1 (List.mem_map.2 ⟨p, h1, he⟩)
theorem lookI_ins (m : IM) (k k' v : Int) : lookI (insI m k v) k' = if k = k' then some v else lookI m k' := by
  induction m with
  | nil => simp [insI, lookI]
  | cons p m ih =>
    unfold insI
    by_cases hp : p.1 = k
    · rw [if_pos hp]
      subst hp
      simp only [lookI]
      by_cases hk : p.1 = k' <;> simp [hk]
    · rw [if_neg hp]
      simp only [lookI, ih]
      by_cases hk : p.1 = k'
      · have : ¬ k = k' := fun e => hp (hk.trans e.symm)
        simp [hk, this]
      · simp [hk]
theorem KeyT.int {P : Program} {k : TypeId} (hu : P.underlying k = some (.int .i64)) : KeyT P k isInt where
  check := by
    rintro w em v ⟨a, rfl⟩
    show (Instr.checkKey em (9999 + 1) k (.int .i64 a)).run P w = _
    rw [Instr.checkKey, Sem.run_bind, run_underlying hu, Result.andThen_ok]
    rfl
  stays := by
    rintro w v ⟨a, rfl⟩
    simp [Instr.keyThatStays, Instr.sameBits]
  find := by
    rintro w v es ⟨a, rfl⟩ hgood
    have now : ∀ (es : List MapEntry) (i : Nat), (∀ e ∈ es, isInt e.key) → (Instr.findNow (.int .i64) (.int .i64 a) es i = some none ∧ ∀ e ∈ es, e.key ≠ .int .i64 a) ∨
        ∃ j e, Instr.findNow (.int .i64) (.int .i64 a) es i = some (some (i + j, e.val)) ∧ es[j]? = some e ∧ e.key = .int .i64 a := by
      intro es
      induction es with
      | nil => intro i _; exact .inl ⟨rfl, by simp⟩
      | cons e es ih =>
        intro i hg
        obtain ⟨c, hc⟩ := hg e (by simp)
        by_cases hh : a = c
        · refine .inr ⟨0, e, ?_, rfl, by rw [hc, hh]⟩
          simp [Instr.findNow, hc, Instr.sameNow, hh]
        · have hne : e.key ≠ .int .i64 a := fun h => hh (by rw [hc] at h; exact (intV_inj h).symm)
          have hrun : Instr.findNow (.int .i64) (.int .i64 a) (e :: es) i = Instr.findNow (.int .i64) (.int .i64 a) es (i + 1) := by
            have hb : (a == c) = false := by simpa using hh
            rw [Instr.findNow, hc]
            simp [Instr.sameNow, hb]
          rcases ih (i + 1) (fun e he => hg e (by simp [he])) with ⟨h1, h2⟩ | ⟨j, e', h1, h2, h3⟩
          · refine .inl ⟨by rw [hrun, h1], fun e' he' => ?_⟩
            rcases List.mem_cons.1 he' with rfl | he'
            · exact hne
            · exact h2 e' he'
          · exact .inr ⟨j + 1, e', by rw [hrun, h1]; congr 3; omega, by simpa using h2, h3⟩
    rcases now es 0 hgood with ⟨h1, h2⟩ | ⟨j, e, h1, h2, h3⟩
    · exact .inl ⟨by simp [Instr.findKey, run_underlying hu, h1], h2⟩
    · exact .inr ⟨j, e, by simp [Instr.findKey, run_underlying hu, h1], h2, h3⟩
section
variable {P : Program} {H : Hp} {env : Env} {dst : Option Tmp} {ty : TypeId} {pos : String} {af : Array Edge} {gd : Option (Nat × Bool)}
theorem pure_lookI {x y : Operand} {t kt et g : Nat} {m : IM} {a : Int} (ht : MapT P t kt et (.int .i64 0) isInt) (hx : opD env x = some (.v (.map (some g)))) (hy : opD env y = some (.v (.int .i64 a)))
    (hnd : NodupI m) (hm : Blk.mp g (keysI m) (valsI m) ∈ H) :
    Pure P H ⟨dst, .lookup t x y true, ty, pos, af, gd⟩ env (.tup [.v (.int .i64 ((lookI m a).getD 0)), .v (.bool (lookI m a).isSome)]) := by
  have := pure_lookup_ok (dst := dst) (ty := ty) (pos := pos) (af := af) (gd := gd) ht hx hy (.v _) ⟨a, rfl⟩ (keysI_good m) hnd.keys hm (lookI_rel m a)
  cases h : lookI m a <;> simpa [h] using this
end
section
variable {K : Ctx} {Q : Exit → Env → Hp → Prop} {env : Env} {H H' : Hp} {ops : Array Oper} {rest : List Oper} {t : Nat} {ty : TypeId} {pos : String} {af : Array Edge}
theorem TL.insertI {T kt et g : Nat} {x y v : Operand} {m : IM} {a n : Int} (ht : MapT K.P T kt et (.int .i64 0) isInt) (hx : opD env x = some (.v (.map (some g)))) (hy : opD env y = some (.v (.int .i64 a))) (hv : opD env v = some (.v (.int .i64 n)))
    (hnd : NodupI m) (hu : UpdR (.mp g (keysI m) (valsI m)) (.mp g (keysI (insI m a n)) (valsI (insI m a n))) H H')
    (h : TL K ops rest Q env H') : TL K ops (⟨none, .mapUpdate T x y v, ty, pos, af, none⟩ :: rest) Q env H :=
  TL.mapUpdate ht hx hy hv (.v _) ⟨a, rfl⟩ (keysI_good m) hnd.keys (insI_rel m a n) hu h
end
theorem map91 : MapT Try.prog 91 3 3 (.int .i64 0) isInt := ⟨Try.underlying91, Try.zeroValue3, KeyT.int Try.underlying3⟩
end Go.Ob
set_option linter.unusedVariables false
set_option linter.unusedSimpArgs false
namespace Go.Ob
open Go.Proofs

def fiP (p : Int × Int → Bool) : List (Int × Int) → Nat → Int
  | [], _ => -1
  | s :: l, i => if p s = true then (i : Int) else fiP p l (i + 1)
theorem fiP_step (p : Int × Int → Bool) (l : List (Int × Int)) (i : Nat) (h : i < l.length) : fiP p (l.drop i) i = if p (pAt l i) = true then (i : Int) else fiP p (l.drop (i + 1)) (i + 1) := by
  have e : l.drop i = pAt l i :: l.drop (i + 1) := by
    rw [List.drop_eq_getElem_cons h]; unfold pAt; simp [h]
  rw [e, fiP]
theorem fiP_end (p : Int × Int → Bool) (l : List (Int × Int)) (i : Nat) (h : l.length ≤ i) : fiP p (l.drop i) i = -1 := by rw [List.drop_eq_nil_of_le h]; rfl
def offG (g : Int) (x : Int × Int) : Bool := decide ((findK x.1).group ≠ g)
set_option maxRecDepth 100000 in
theorem only1_spec (x : Int × Int) (g : Int) : Fun Try.prog 76 [.agg [.v (.int .i64 x.1), .v (.int .i64 x.2)], .at_ [.v (.int .i64 g)]] (.v (.bool (offG g x))) := by
  refine Fun.enter (n := 15) (rs := [.tmp 3]) Try.func76 rfl Try.ntmps76 Try.results76 rfl (fun w F => ?_)
  refine TC.seq ?_; refine TC.region ?_
  refine TL.box rfl (.agg _) rfl (fun g2 => ?_)
  refine TL.run1 (pure_assign rfl) rfl ?_; refine TL.nil' ?_; refine TC.seq ?_; refine TC.region ?_
  first | refine TL.run1 (pure_fieldAddr Ty.f38_0 rfl (.zero _) (List.cons_ne_nil _ _)) rfl ?_ | refine TL.run1 (pure_fieldAddr_own Ty.f38_0 rfl) rfl ?_
  first | refine TL.run1 (pure_load1 Ty.one3 rfl) rfl ?_ | refine TL.run1 (pure_load1_own Ty.one3 rfl (by repeat (first | exact List.Mem.head _ | apply List.Mem.tail)) (by repeat (first | exact DropR.zero _ | apply DropR.succ))) rfl ?_
  refine TL.run1 (pure_call (Group_spec x.1) (.cons rfl .nil) Try.call77) rfl ?_; refine TL.run1 (pure_move rfl) rfl ?_; refine TL.run1 (pure_extract rfl rfl) rfl ?_; refine TL.run1 (pure_extract rfl rfl) rfl ?_; refine TL.run1 (pure_assign rfl) rfl ?_; refine TL.run1 (pure_assign rfl) rfl ?_; refine TL.nil' ?_; refine TC.seq ?_; refine TC.region ?_; refine TL.run1 (pure_move rfl) rfl ?_
  first | refine TL.run1 (pure_load1 Ty.one3 rfl) rfl ?_ | refine TL.run1 (pure_load1_own Ty.one3 rfl (by repeat (first | exact List.Mem.head _ | apply List.Mem.tail)) (by repeat (first | exact DropR.zero _ | apply DropR.succ))) rfl ?_
  refine TL.run1 (pure_neq rfl rfl) rfl ?_; refine TL.run1 (pure_assign rfl) rfl ?_; refine TL.nil' ?_; refine TC.ret ?_
  exact ret_bool rfl rfl
set_option maxRecDepth 100000 in
theorem idxP_spec (ps : List (Int × Int)) (g : Int) (hl : ps.length ≤ 1000000) : Fun Try.prog 87 [.sl 2 (encP ps), .fn 76 [.at_ [.v (.int .i64 g)]]] (.v (.int .i64 (fiP (offG g) ps 0))) := by
  refine Fun.enter (n := 19) (rs := [.tmp 4]) Try.func87 rfl Try.ntmps87 Try.results87 rfl (fun w F => ?_)
  have hk := encP_len ps
  refine TC.seq ?_; refine TC.region ?_; refine TL.run1 (pure_assign rfl) rfl ?_; refine TL.nil' ?_; refine TC.seq ?_; refine TC.seq ?_; refine TC.region ?_; refine TL.run1 (pure_move rfl) rfl ?_
  first | refine TL.run1 (pure_len Ty.sl26 rfl) rfl ?_ | refine TL.run1 (pure_len_row Ty.sl26 rfl (by repeat (first | exact List.Mem.head _ | apply List.Mem.tail))) rfl ?_ | refine TL.run1 (pure_len_nil Ty.sl26 rfl) rfl ?_
  refine TL.run1 (pure_move rfl) rfl ?_; refine TL.nil' ?_; refine TC.block ?_; refine TC.loopX (X := Nat) (fun i => [(0, .sl 2 (encP ps)), (1, .fn 76 [.at_ [.v (.int .i64 g)]]), (7, .v (.int .i64 (encP ps).length)), (8, .v (.int .i64 i))]) (fun i => []) (fun i => (i ≤ ps.length) ∧ (fiP (offG g) ps 0 = fiP (offG g) (ps.drop i) i)) (fun i => ps.length - i) (0) ⟨by skip; repeat (first | exact Agree.nil | refine Agree.cons rfl ?_), by skip; repeat (first | exact List.nil_sublist _ | exact List.Sublist.refl _ | apply List.Sublist.cons_cons | apply List.Sublist.cons)⟩ ?_ ?_
  · skip
    exact ⟨Nat.zero_le _, rfl⟩
  intro i
  rintro ⟨h1, h2⟩
  show TC _ _ _ (Env.of [(0, .sl 2 (encP ps)), (1, .fn 76 [.at_ [.v (.int .i64 g)]]), (7, .v (.int .i64 (encP ps).length)), (8, .v (.int .i64 i))]) []
  refine TC.seq ?_; refine TC.region ?_; refine TL.run1 (pure_lss rfl rfl) rfl ?_; refine TL.nil' ?_; refine TC.seq ?_
  first | refine TC.condD rfl (fun hc9 => ?_) (fun hc9 => ?_) | refine TC.condN rfl (fun hc9 => ?_) (fun hc9 => ?_) | refine TC.cond rfl (fun hc9 => ?_) (fun hc9 => ?_)
  · try dsimp only at hc9
    refine TC.skip' ?_; refine TC.seq ?_; refine TC.block ?_; refine TC.seq ?_; refine TC.region ?_; refine TL.run1 (pure_move rfl) rfl ?_; refine TL.run1 (pure_assign rfl) rfl ?_; refine TL.nil' ?_; refine TC.seq ?_
    have hrow := encP_getN ps i (by omega)
    refine TC.region ?_; refine TL.run1 (pure_move rfl) rfl ?_; refine TL.run1 (pure_move rfl) rfl ?_; refine TL.run1 (pure_move rfl) rfl ?_; refine TL.run1 (pure_indexAddr Ty.sl26 rfl rfl (by omega) hrow (List.cons_ne_nil _ _)) rfl ?_
    first | refine TL.run1 (pure_load Ty.agg38 rfl (.succ (.succ (.zero _)))) rfl ?_ | refine TL.run1 (pure_load_own Ty.agg38 rfl (by repeat (first | exact List.Mem.head _ | apply List.Mem.tail)) (by repeat (first | exact DropR.zero _ | apply DropR.succ)) (.succ (.succ (.zero _)))) rfl ?_
    refine TL.run1 (pure_callv rfl (only1_spec (pAt ps i) g) (.cons rfl .nil) Try.call76) rfl ?_; refine TL.nil' ?_
    first | refine TC.condD rfl (fun hc16 => ?_) (fun hc16 => ?_) | refine TC.condN rfl (fun hc16 => ?_) (fun hc16 => ?_) | refine TC.cond rfl (fun hc16 => ?_) (fun hc16 => ?_)
    · try dsimp only at hc16
      refine TC.seq ?_; refine TC.region ?_; refine TL.run1 (pure_move rfl) rfl ?_; refine TL.run1 (pure_assign rfl) rfl ?_; refine TL.nil' ?_; refine TC.ret ?_; refine block_ret ?_; refine then_ret ?_; refine loop_ret ?_; refine block_ret ?_; refine then_ret ?_
      exact ret_int rfl (by rw [h2, fiP_step _ _ _ (by omega), if_pos (by first | exact hc16 | simpa [offG] using hc16)])
    · try dsimp only at hc16
      refine TC.skip ?_; refine block_normal ?_; refine then_normal ?_; refine TC.region ?_; refine TL.run1 (pure_add rfl rfl (mkI64 (by omega) (by omega))) rfl ?_; refine TL.run1 (pure_move rfl) rfl ?_; refine TL.nil ?_
      refine loop_next (i + 1) ⟨by ((try dsimp only); rw [show (((i + 1 : Nat)) : Int) = (i : Int) + 1 by omega]; repeat (first | exact Agree.nil | refine Agree.cons rfl ?_)), by repeat (first | exact List.nil_sublist _ | exact List.Sublist.refl _ | apply List.Sublist.cons_cons | apply List.Sublist.cons)⟩ ⟨by omega, by rw [h2, fiP_step _ _ _ (by omega), if_neg (by first | exact hc16 | simpa [offG] using hc16)]⟩ (by omega)
  · try dsimp only at hc9
    refine TC.exit ?_; refine then_exit ?_; refine loop_exit ?_; refine block_here ?_; refine then_normal ?_; refine TC.seq ?_; refine TC.region ?_; refine TL.run1 (pure_assign rfl) rfl ?_; refine TL.nil' ?_; refine TC.ret ?_
    exact ret_int rfl (by rw [h2, fiP_end _ _ _ (by omega)])
end Go.Ob
set_option linter.unusedVariables false
set_option linter.unusedSimpArgs false
namespace Go.Ob
open Go.Proofs

/-! ### chains -/
def sq (l : List Sty) (id : Int) : Nat → Int
  | 0 => id
  | k + 1 => (yAt l (findS l (sq l id k)).toNat).base
def chI (l : List Sty) (id : Int) (k : Nat) : List Int := (List.range k).map (sq l id)
theorem chI_succ (l : List Sty) (id : Int) (k : Nat) : chI l id (k + 1) = chI l id k ++ [sq l id k] := by simp [chI, List.range_succ]
theorem chI_len (l : List Sty) (id : Int) (k : Nat) : (chI l id k).length = k := by simp [chI]
/-- the chain of a style ends behind n steps, and all on it are found -/
structure ChOk (l : List Sty) (id : Int) (n : Nat) : Prop where
  on : ∀ k, k < n → sq l id k ≠ 0 ∧ 0 ≤ findS l (sq l id k)
  off : sq l id n = 0
set_option maxRecDepth 100000 in
theorem R8Chain_spec (l : List Sty) (id : Int) (n : Nat) (hc : ChOk l id n) (hn : n ≤ 1000000) (hl : l.length ≤ 1000000) : Fun Try.prog 38 [.sl 6 (encSs l), .v (.int .i64 id)] (.sl 1 (encI (chI l id n))) := by
  refine Fun.enterF (n := 20) (rs := [.tmp 4]) Try.func38 rfl Try.ntmps38 Try.results38 rfl (fun w F => ?_)
  have hk := encSs_len l
  refine TC.seq ?_; refine TC.region ?_; refine TL.run1 (pure_assign rfl) rfl ?_; refine TL.nil' ?_; refine TC.seq ?_; refine TC.nilrow 3 1 ?_; refine TC.region ?_; refine TL.run1 (pure_assign rfl) rfl ?_; refine TL.nil' ?_; refine TC.seq ?_; refine TC.block ?_; refine TC.loopX (X := Nat × Value) (fun (k, v) => [(0, .sl 6 (encSs l)), (1, .v (.int .i64 (sq l id k))), (5, .v v)]) (fun (k, v) => [.row v 3 1 (encI (chI l id k))]) (fun (k, v) => (k ≤ n)) (fun (k, v) => n - k) (0, .slice none 0 0) ⟨by skip; repeat (first | exact Agree.nil | refine Agree.cons rfl ?_), by skip; repeat (first | exact List.nil_sublist _ | exact List.Sublist.refl _ | apply List.Sublist.cons_cons | apply List.Sublist.cons)⟩ ?_ ?_
  · skip
    exact Nat.zero_le _
  rintro ⟨k, v⟩
  intro h1
  show TC _ _ _ (Env.of [(0, .sl 6 (encSs l)), (1, .v (.int .i64 (sq l id k))), (5, .v v)]) [.row v 3 1 (encI (chI l id k))]
  refine TC.seq ?_; refine TC.seq ?_; refine TC.region ?_; refine TL.run1 (pure_move rfl) rfl ?_; refine TL.run1 (pure_neq rfl rfl) rfl ?_; refine TL.nil' ?_
  first | refine TC.condD rfl (fun hc7 => ?_) (fun hc7 => ?_) | refine TC.condN rfl (fun hc7 => ?_) (fun hc7 => ?_) | refine TC.cond rfl (fun hc7 => ?_) (fun hc7 => ?_)
  · try dsimp only at hc7
    refine TC.skip' ?_; refine TC.block ?_; refine TC.seq ?_
    have hkn : k < n := by (rcases Nat.lt_or_eq_of_le h1 with h | h; exact h; exact absurd (h ▸ hc.off) (by omega))
    obtain ⟨_, hf0⟩ := hc.on k hkn
    have hfr := findS_range l (sq l id k)
    have hrow := encSs_get l (findS l (sq l id k)).toNat (by omega)
    rw [show (((findS l (sq l id k)).toNat : Nat) : Int) = findS l (sq l id k) by omega] at hrow
    have hcl := chI_len l id k
    have hce := encI_len (chI l id k)
    refine TC.region ?_; refine TL.run1 (pure_move rfl) rfl ?_; refine TL.run1 (pure_move rfl) rfl ?_; refine TL.run1 (pure_buildSlice (xs := [.tmp 9]) Ty.app50 (by decide) rfl rfl (.cons rfl (.one rfl) rfl .nil)) rfl ?_
    refine TL.append Ty.app50 rfl rfl (by intro _; repeat (first | exact UpdR.here _ | apply UpdR.there)) (by simp only [List.length_append, List.length_cons, List.length_nil]; omega) (by simp only [List.length_append, List.length_cons, List.length_nil]; omega) rfl (fun v11 hv11 => ?_)
    refine TL.run1 (pure_assign rfl) rfl ?_; refine TL.nil' ?_; refine TC.region ?_; refine TL.run1 (pure_move rfl) rfl ?_; refine TL.run1 (pure_move rfl) rfl ?_; refine TL.run1 (pure_move rfl) rfl ?_; refine TL.run1 (pure_call (RFind_spec l (sq l id k) hl) (.cons rfl (.cons rfl .nil)) Try.call26) rfl ?_; refine TL.run1 (pure_indexAddr Ty.sl22 rfl rfl (by omega) hrow (List.cons_ne_nil _ _)) rfl ?_
    first | refine TL.run1 (pure_fieldAddr Ty.f28_3 rfl (.succ (.succ (.succ (.zero _)))) (List.cons_ne_nil _ _)) rfl ?_ | refine TL.run1 (pure_fieldAddr_own Ty.f28_3 rfl) rfl ?_
    first | refine TL.run1 (pure_load1 Ty.one3 rfl) rfl ?_ | refine TL.run1 (pure_load1_own Ty.one3 rfl (by repeat (first | exact List.Mem.head _ | apply List.Mem.tail)) (by repeat (first | exact DropR.zero _ | apply DropR.succ))) rfl ?_
    refine TL.run1 (pure_assign rfl) rfl ?_; refine TL.nil ?_; refine block_normal ?_
    refine loop_next (k + 1, v11) ⟨by (dsimp only; repeat (first | exact Agree.nil | refine Agree.cons rfl ?_)), by dsimp only; rw [chI_succ, encI_snoc]; repeat (first | exact List.nil_sublist _ | exact List.Sublist.refl _ | apply List.Sublist.cons_cons | apply List.Sublist.cons)⟩ (show k + 1 ≤ _ by omega) (by dsimp only; omega)
  · try dsimp only at hc7
    refine TC.exit ?_; refine then_exit ?_; refine loop_exit ?_; refine block_here ?_; refine then_normal ?_; refine TC.seq ?_; refine TC.region ?_; refine TL.run1 (pure_move rfl) rfl ?_; refine TL.run1 (pure_assign rfl) rfl ?_; refine TL.nil' ?_; refine TC.ret ?_
    have hkn : k = n := by (rcases Nat.lt_or_eq_of_le h1 with h | h; exact absurd (hc.on k h).1 (by omega); exact h)
    subst hkn
    exact retF_row rfl (by repeat (first | exact List.Mem.head _ | apply List.Mem.tail)) (by decide) (encI_each _) rfl
end Go.Ob
set_option linter.unusedVariables false
set_option linter.unusedSimpArgs false
namespace Go.Ob
open Go.Proofs

theorem chI_get (l : List Sty) (id : Int) (n k : Nat) (h : k < n) : (encI (chI l id n))[((k : Nat) : Int).toNat]? = some [.v (.int .i64 (sq l id k))] := by
  rw [Int.toNat_natCast]; simp [encI, chI, h]
def efR (l : List Sty) (id : Int) (n : Nat) : Nat → List (Int × Int)
  | 0 => []
  | m + 1 => merT (efR l id n m) (yAt l (findS l (sq l id (n - 1 - m))).toNat).props
theorem efR_len (l : List Sty) (id : Int) (n m : Nat) : (efR l id n m).length ≤ 1000 := by
  cases m with
  | zero => exact Nat.zero_le _
  | succ m => have := mTo_len (efR l id n m) (yAt l (findS l (sq l id (n - 1 - m))).toNat).props tableK.length; have h2 := tableK_len; rw [efR, merT]; omega
set_option maxRecDepth 100000 in
theorem R8Effective_spec (l : List Sty) (id : Int) (n : Nat) (hc : ChOk l id n) (hn : n ≤ 1000000) (hl : l.length ≤ 1000000) (hp : ∀ i, i < l.length → (yAt l i).props.length ≤ 1000000) : Fun Try.prog 33 [.sl 6 (encSs l), .v (.int .i64 id)] (.sl 2 (encP (efR l id n n))) := by
  refine Fun.enter (n := 34) (rs := [.tmp 4]) Try.func33 rfl Try.ntmps33 Try.results33 rfl (fun w F => ?_)
  have hk := encSs_len l
  have hcl := chI_len l id n
  have hce := encI_len (chI l id n)
  refine TC.seq ?_; refine TC.region ?_; refine TL.run1 (pure_assign rfl) rfl ?_; refine TL.nil' ?_; refine TC.seq ?_; refine TC.region ?_; refine TL.run1 (pure_assign rfl) rfl ?_; refine TL.nil' ?_; refine TC.seq ?_; refine TC.nilrow 38 2 ?_; refine TC.frz 5 [] (List.nil_sublist _) rfl (.rowS (xs := encP []) (gone_nil (by repeat (first | exact List.Mem.head _ | apply List.Mem.tail))) (by decide) (by simp [encP])) ?_; refine TC.region ?_; refine TL.run1 (pure_buildSlice (xs := []) Ty.app50 (by decide) rfl rfl .nil) rfl ?_; refine TL.run1 (pure_assign rfl) rfl ?_; refine TL.nil' ?_; refine TC.seq ?_; refine TC.seq ?_; refine TC.region ?_; refine TL.run1 (pure_move rfl) rfl ?_; refine TL.run1 (pure_neq rfl rfl) rfl ?_; refine TL.nil' ?_
  first | refine TC.condD rfl (fun hc10 => ?_) (fun hc10 => ?_) | refine TC.condN rfl (fun hc10 => ?_) (fun hc10 => ?_) | refine TC.cond rfl (fun hc10 => ?_) (fun hc10 => ?_)
  · try dsimp only at hc10
    refine TC.region ?_; refine TL.run1 (pure_move rfl) rfl ?_; refine TL.run1 (pure_move rfl) rfl ?_; refine TL.run1 (pure_call (R8Chain_spec l id n hc hn hl) (.cons rfl (.cons rfl .nil)) Try.call38) rfl ?_; refine TL.run1 (pure_assign rfl) rfl ?_; refine TL.nil' ?_; refine TC.seq ?_; refine TC.seq ?_; refine TC.region ?_; refine TL.run1 (pure_move rfl) rfl ?_
    first | refine TL.run1 (pure_len Ty.sl50 rfl) rfl ?_ | refine TL.run1 (pure_len_row Ty.sl50 rfl (by repeat (first | exact List.Mem.head _ | apply List.Mem.tail))) rfl ?_ | refine TL.run1 (pure_len_nil Ty.sl50 rfl) rfl ?_
    refine TL.run1 (pure_sub rfl rfl (mkI64 (by omega) (by omega))) rfl ?_; refine TL.run1 (pure_assign rfl) rfl ?_; refine TL.nil' ?_; refine TC.block ?_; refine TC.loopX (X := Nat) (fun m => [(0, .sl 6 (encSs l)), (5, .sl 2 (encP (efR l id n m))), (6, .sl 1 (encI (chI l id n))), (7, .v (.int .i64 ((n : Int) - 1 - m)))]) (fun m => []) (fun m => (m ≤ n)) (fun m => n - m) (0) ⟨by (try dsimp only); rw [show ((n : Int) - 1 - ((0 : Nat) : Int)) = ((encI (chI l id n)).length : Int) - 1 by omega]; repeat (first | exact Agree.nil | refine Agree.cons rfl ?_), by skip; repeat (first | exact List.nil_sublist _ | exact List.Sublist.refl _ | apply List.Sublist.cons_cons | apply List.Sublist.cons)⟩ ?_ ?_
    · skip
      exact Nat.zero_le _
    intro m
    intro h1
    show TC _ _ _ (Env.of [(0, .sl 6 (encSs l)), (5, .sl 2 (encP (efR l id n m))), (6, .sl 1 (encI (chI l id n))), (7, .v (.int .i64 ((n : Int) - 1 - m)))]) []
    refine TC.seq ?_; refine TC.seq ?_; refine TC.region ?_; refine TL.run1 (pure_move rfl) rfl ?_; refine TL.run1 (pure_geq rfl rfl) rfl ?_; refine TL.nil' ?_
    first | refine TC.condD rfl (fun hc18 => ?_) (fun hc18 => ?_) | refine TC.condN rfl (fun hc18 => ?_) (fun hc18 => ?_) | refine TC.cond rfl (fun hc18 => ?_) (fun hc18 => ?_)
    · try dsimp only at hc18
      refine TC.skip' ?_; refine TC.seq ?_; refine TC.block ?_
      have hmn : m < n := by omega
      obtain ⟨_, hf0⟩ := hc.on (n - 1 - m) (by omega)
      have hfr := findS_range l (sq l id (n - 1 - m))
      have hrc := chI_get l id n (n - 1 - m) (by omega)
      rw [show (((n - 1 - m) : Nat) : Int) = ((n : Int) - 1 - m) by omega] at hrc
      have hrow := encSs_get l (findS l (sq l id (n - 1 - m))).toNat (by omega)
      rw [show (((findS l (sq l id (n - 1 - m))).toNat : Nat) : Int) = findS l (sq l id (n - 1 - m)) by omega] at hrow
      have hel := efR_len l id n m
      refine TC.region ?_; refine TL.run1 (pure_move rfl) rfl ?_; refine TL.run1 (pure_move rfl) rfl ?_; refine TL.run1 (pure_move rfl) rfl ?_; refine TL.run1 (pure_move rfl) rfl ?_; refine TL.run1 (pure_move rfl) rfl ?_; refine TL.run1 (pure_indexAddr Ty.sl50 rfl rfl (by omega) hrc (List.cons_ne_nil _ _)) rfl ?_
      first | refine TL.run1 (pure_load1 Ty.one3 rfl) rfl ?_ | refine TL.run1 (pure_load1_own Ty.one3 rfl (by repeat (first | exact List.Mem.head _ | apply List.Mem.tail)) (by repeat (first | exact DropR.zero _ | apply DropR.succ))) rfl ?_
      refine TL.run1 (pure_call (RFind_spec l (sq l id (n - 1 - m)) hl) (.cons rfl (.cons rfl .nil)) Try.call26) rfl ?_; refine TL.run1 (pure_indexAddr Ty.sl22 rfl rfl (by omega) hrow (List.cons_ne_nil _ _)) rfl ?_
      first | refine TL.run1 (pure_fieldAddr Ty.f28_5 rfl (.succ (.succ (.succ (.succ (.succ (.zero _)))))) (List.cons_ne_nil _ _)) rfl ?_ | refine TL.run1 (pure_fieldAddr_own Ty.f28_5 rfl) rfl ?_
      first | refine TL.run1 (pure_load1 Ty.one26 rfl) rfl ?_ | refine TL.run1 (pure_load1_own Ty.one26 rfl (by repeat (first | exact List.Mem.head _ | apply List.Mem.tail)) (by repeat (first | exact DropR.zero _ | apply DropR.succ))) rfl ?_
      refine TL.run1 (pure_call (R8Merge_spec (efR l id n m) (yAt l (findS l (sq l id (n - 1 - m))).toNat).props (by omega) (hp _ (by omega))) (.cons rfl (.cons rfl .nil)) Try.call22) rfl ?_; refine TL.run1 (pure_assign rfl) rfl ?_; refine TL.nil ?_; refine block_normal ?_; refine then_normal ?_; refine TC.region ?_; refine TL.run1 (pure_move rfl) rfl ?_; refine TL.run1 (pure_sub rfl rfl (mkI64 (by omega) (by omega))) rfl ?_; refine TL.run1 (pure_assign rfl) rfl ?_; refine TL.nil ?_
      refine loop_next (m + 1) ⟨by ((try dsimp only); rw [show ((n : Int) - 1 - ((m + 1 : Nat) : Int)) = ((n : Int) - 1 - m) - 1 by omega]; repeat (first | exact Agree.nil | refine Agree.cons rfl ?_)), by repeat (first | exact List.nil_sublist _ | exact List.Sublist.refl _ | apply List.Sublist.cons_cons | apply List.Sublist.cons)⟩ (show m + 1 ≤ _ by omega) (by omega)
    · try dsimp only at hc18
      refine TC.exit ?_; refine then_exit ?_; refine loop_exit ?_; refine block_here ?_; refine then_normal ?_; refine TC.seq ?_; refine TC.region ?_; refine TL.run1 (pure_move rfl) rfl ?_; refine TL.run1 (pure_assign rfl) rfl ?_; refine TL.nil' ?_; refine TC.ret ?_
      have hmn : m = n := by omega
      subst hmn
      exact ret_sl rfl rfl
  · try dsimp only at hc10
    have hn0 : n = 0 := by (rcases Nat.eq_zero_or_pos n with h | h; exact h; exact absurd (hc.on 0 h).1 (by simpa [sq] using hc10))
    have hnil : ([] : List (List D)) = encI (chI l id n) := by (rw [hn0]; rfl)
    rw [hnil]
    refine TC.skip' ?_; refine TC.seq ?_; refine TC.seq ?_; refine TC.region ?_; refine TL.run1 (pure_move rfl) rfl ?_
    first | refine TL.run1 (pure_len Ty.sl50 rfl) rfl ?_ | refine TL.run1 (pure_len_row Ty.sl50 rfl (by repeat (first | exact List.Mem.head _ | apply List.Mem.tail))) rfl ?_ | refine TL.run1 (pure_len_nil Ty.sl50 rfl) rfl ?_
    refine TL.run1 (pure_sub rfl rfl (mkI64 (by omega) (by omega))) rfl ?_; refine TL.run1 (pure_assign rfl) rfl ?_; refine TL.nil' ?_; refine TC.block ?_; refine TC.loopX (X := Nat) (fun m => [(0, .sl 6 (encSs l)), (5, .sl 2 (encP (efR l id n m))), (6, .sl 1 (encI (chI l id n))), (7, .v (.int .i64 ((n : Int) - 1 - m)))]) (fun m => []) (fun m => (m ≤ n)) (fun m => n - m) (0) ⟨by (try dsimp only); rw [show ((n : Int) - 1 - ((0 : Nat) : Int)) = ((encI (chI l id n)).length : Int) - 1 by omega]; repeat (first | exact Agree.nil | refine Agree.cons rfl ?_), by skip; repeat (first | exact List.nil_sublist _ | exact List.Sublist.refl _ | apply List.Sublist.cons_cons | apply List.Sublist.cons)⟩ ?_ ?_
    · skip
      exact Nat.zero_le _
    intro m
    intro h1
    show TC _ _ _ (Env.of [(0, .sl 6 (encSs l)), (5, .sl 2 (encP (efR l id n m))), (6, .sl 1 (encI (chI l id n))), (7, .v (.int .i64 ((n : Int) - 1 - m)))]) []
    refine TC.seq ?_; refine TC.seq ?_; refine TC.region ?_; refine TL.run1 (pure_move rfl) rfl ?_; refine TL.run1 (pure_geq rfl rfl) rfl ?_; refine TL.nil' ?_
    first | refine TC.condD rfl (fun hc18 => ?_) (fun hc18 => ?_) | refine TC.condN rfl (fun hc18 => ?_) (fun hc18 => ?_) | refine TC.cond rfl (fun hc18 => ?_) (fun hc18 => ?_)
    · try dsimp only at hc18
      refine TC.skip' ?_; refine TC.seq ?_; refine TC.block ?_
      have hmn : m < n := by omega
      obtain ⟨_, hf0⟩ := hc.on (n - 1 - m) (by omega)
      have hfr := findS_range l (sq l id (n - 1 - m))
      have hrc := chI_get l id n (n - 1 - m) (by omega)
      rw [show (((n - 1 - m) : Nat) : Int) = ((n : Int) - 1 - m) by omega] at hrc
      have hrow := encSs_get l (findS l (sq l id (n - 1 - m))).toNat (by omega)
      rw [show (((findS l (sq l id (n - 1 - m))).toNat : Nat) : Int) = findS l (sq l id (n - 1 - m)) by omega] at hrow
      have hel := efR_len l id n m
      refine TC.region ?_; refine TL.run1 (pure_move rfl) rfl ?_; refine TL.run1 (pure_move rfl) rfl ?_; refine TL.run1 (pure_move rfl) rfl ?_; refine TL.run1 (pure_move rfl) rfl ?_; refine TL.run1 (pure_move rfl) rfl ?_; refine TL.run1 (pure_indexAddr Ty.sl50 rfl rfl (by omega) hrc (List.cons_ne_nil _ _)) rfl ?_
      first | refine TL.run1 (pure_load1 Ty.one3 rfl) rfl ?_ | refine TL.run1 (pure_load1_own Ty.one3 rfl (by repeat (first | exact List.Mem.head _ | apply List.Mem.tail)) (by repeat (first | exact DropR.zero _ | apply DropR.succ))) rfl ?_
      refine TL.run1 (pure_call (RFind_spec l (sq l id (n - 1 - m)) hl) (.cons rfl (.cons rfl .nil)) Try.call26) rfl ?_; refine TL.run1 (pure_indexAddr Ty.sl22 rfl rfl (by omega) hrow (List.cons_ne_nil _ _)) rfl ?_
      first | refine TL.run1 (pure_fieldAddr Ty.f28_5 rfl (.succ (.succ (.succ (.succ (.succ (.zero _)))))) (List.cons_ne_nil _ _)) rfl ?_ | refine TL.run1 (pure_fieldAddr_own Ty.f28_5 rfl) rfl ?_
      first | refine TL.run1 (pure_load1 Ty.one26 rfl) rfl ?_ | refine TL.run1 (pure_load1_own Ty.one26 rfl (by repeat (first | exact List.Mem.head _ | apply List.Mem.tail)) (by repeat (first | exact DropR.zero _ | apply DropR.succ))) rfl ?_
      refine TL.run1 (pure_call (R8Merge_spec (efR l id n m) (yAt l (findS l (sq l id (n - 1 - m))).toNat).props (by omega) (hp _ (by omega))) (.cons rfl (.cons rfl .nil)) Try.call22) rfl ?_; refine TL.run1 (pure_assign rfl) rfl ?_; refine TL.nil ?_; refine block_normal ?_; refine then_normal ?_; refine TC.region ?_; refine TL.run1 (pure_move rfl) rfl ?_; refine TL.run1 (pure_sub rfl rfl (mkI64 (by omega) (by omega))) rfl ?_; refine TL.run1 (pure_assign rfl) rfl ?_; refine TL.nil ?_
      refine loop_next (m + 1) ⟨by ((try dsimp only); rw [show ((n : Int) - 1 - ((m + 1 : Nat) : Int)) = ((n : Int) - 1 - m) - 1 by omega]; repeat (first | exact Agree.nil | refine Agree.cons rfl ?_)), by repeat (first | exact List.nil_sublist _ | exact List.Sublist.refl _ | apply List.Sublist.cons_cons | apply List.Sublist.cons)⟩ (show m + 1 ≤ _ by omega) (by omega)
    · try dsimp only at hc18
      refine TC.exit ?_; refine then_exit ?_; refine loop_exit ?_; refine block_here ?_; refine then_normal ?_; refine TC.seq ?_; refine TC.region ?_; refine TL.run1 (pure_move rfl) rfl ?_; refine TL.run1 (pure_assign rfl) rfl ?_; refine TL.nil' ?_; refine TC.ret ?_
      have hmn : m = n := by omega
      subst hmn
      exact ret_sl rfl rfl
end Go.Ob
