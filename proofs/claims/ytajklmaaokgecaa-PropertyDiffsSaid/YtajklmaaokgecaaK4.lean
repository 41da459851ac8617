import Derived.Test.YtajklmaaokgecaaK3
set_option linter.unusedVariables false
set_option linter.unusedSimpArgs false
namespace Go.Ob
open Go.Proofs
set_option maxRecDepth 100000 in
theorem pairs_seq (a b : List (Int × Int)) (hla : a.length ≤ 1000000) (hlb : b.length ≤ 1000000) : SeqD Try.prog 60 [.at_ [.sl 2 (encP a)], .at_ [.sl 2 (encP b)]] (encPairs (pairsL a b)) := by
  refine SeqD.enter Try.func60 rfl Try.ntmps60 Try.results60 rfl (fun l J Jx w F H0 hJ0 hy => ?_)
  have hka := encP_len a
  have hkb := encP_len b
  refine TC.seq ?_
  refine TC.region ?_
  refine TL.run1 (pure_assign rfl) rfl ?_
  refine TL.run1 (pure_assign rfl) rfl ?_
  refine TL.nil' ?_
  refine TC.block ?_
  refine TC.loopX (X := Int × Int × Nat × Hp) (fun (i, k, n, Hc) => [(0, .v (.func (.yield l) #[] #[])), (1, .at_ [.sl 2 (encP a)]), (2, .at_ [.sl 2 (encP b)]), (4, .v (.int .i64 i)), (5, .v (.int .i64 k))]) (fun (i, k, n, Hc) => Hc) (fun (i, k, n, Hc) => (0 ≤ i) ∧ (i ≤ a.length) ∧ (0 ≤ k) ∧ (k ≤ b.length) ∧ (n ≤ (encPairs (pairsL a b)).length) ∧ (J n Hc) ∧ ((encPairs (pairsL a b)).drop n = encPairs (pairsL (a.drop i.toNat) (b.drop k.toNat)))) (fun (i, k, n, Hc) => (a.length - i).toNat + (b.length - k).toNat) (0, 0, 0, H0) ⟨by skip; repeat (first | exact Agree.nil | refine Agree.cons rfl ?_), by skip; repeat (first | exact List.nil_sublist _ | exact List.Sublist.refl _ | apply List.Sublist.cons_cons | apply List.Sublist.cons)⟩ ?_ ?_
  · skip
    exact ⟨by omega, by omega, by omega, by omega, by omega, hJ0, rfl⟩
  rintro ⟨i, k, n, Hc⟩
  rintro ⟨h0, h1, h2, h3, hn, hJ, hd⟩
  show TC _ _ _ (Env.of [(0, .v (.func (.yield l) #[] #[])), (1, .at_ [.sl 2 (encP a)]), (2, .at_ [.sl 2 (encP b)]), (4, .v (.int .i64 i)), (5, .v (.int .i64 k))]) Hc
  refine TC.seq ?_
  refine TC.regionCut [8, 9, 10, 11, 12, 13, 14, 15, 16, 17] 17 (i < a.length ∨ k < b.length) ?_ ?_
  · skip
    refine TL.run1 (pure_move rfl) rfl ?_
    first | refine TL.run1 (pure_load1 Ty.one31 rfl) rfl ?_ | refine TL.run1 (pure_load1_own Ty.one31 rfl (by repeat (first | exact List.Mem.head _ | apply List.Mem.tail)) (by repeat (first | exact DropR.zero _ | apply DropR.succ))) rfl ?_
    first | refine TL.run1 (pure_len Ty.sl31 rfl) rfl ?_ | refine TL.run1 (pure_len_row Ty.sl31 rfl (by repeat (first | exact List.Mem.head _ | apply List.Mem.tail))) rfl ?_ | refine TL.run1 (pure_len_nil Ty.sl31 rfl) rfl ?_
    refine TL.run1 (pure_lss rfl rfl) rfl ?_
    refine TL.run1 (pure_move rfl) rfl ?_
    first | refine TL.splitP 12 rfl (fun hg12 => ?_) (fun hg12 => ?_) | refine TL.split 12 rfl (fun hg12 => ?_) (fun hg12 => ?_)
    · try dsimp only at hg12
      refine TL.passG rfl rfl rfl rfl ?_
      refine TL.passG rfl rfl rfl rfl ?_
      refine TL.passG rfl rfl rfl rfl ?_
      refine TL.passG rfl rfl rfl rfl ?_
      refine TL.run1 (pure_pick_true rfl rfl) rfl ?_
      refine TL.cutEnd (by repeat (first | exact Same.refl _ _ | refine Same.put rfl ?_)) rfl ?_
      first | (simp only [decide_eq_true_eq, Bool.false_eq_true, false_iff, true_iff, iff_true, iff_false, Bool.not_eq_true]; omega) | (simp_all; done) | (simp_all; omega) | grind
    · try dsimp only at hg12
      refine TL.runG rfl rfl (pure_move rfl) rfl ?_
      first | refine TL.runG rfl rfl (pure_load1 Ty.one31 rfl) rfl ?_ | refine TL.runG rfl rfl (pure_load1_own Ty.one31 rfl (by repeat (first | exact List.Mem.head _ | apply List.Mem.tail)) (by repeat (first | exact DropR.zero _ | apply DropR.succ))) rfl ?_
      first | refine TL.runG rfl rfl (pure_len Ty.sl31 rfl) rfl ?_ | refine TL.runG rfl rfl (pure_len_row Ty.sl31 rfl (by repeat (first | exact List.Mem.head _ | apply List.Mem.tail))) rfl ?_ | refine TL.runG rfl rfl (pure_len_nil Ty.sl31 rfl) rfl ?_
      refine TL.runG rfl rfl (pure_lss rfl rfl) rfl ?_
      refine TL.run1 (pure_pick_false rfl rfl) rfl ?_
      refine TL.cutEnd (by repeat (first | exact Same.refl _ _ | refine Same.put rfl ?_)) rfl ?_
      first | (simp only [decide_eq_true_eq, Bool.false_eq_true, false_iff, true_iff, iff_true, iff_false, Bool.not_eq_true]; omega) | (simp_all; done) | (simp_all; omega) | grind
  first | refine TC.condD rfl (fun hc17 => ?_) (fun hc17 => ?_) | refine TC.condN rfl (fun hc17 => ?_) (fun hc17 => ?_) | refine TC.cond rfl (fun hc17 => ?_) (fun hc17 => ?_)
  · try dsimp only at hc17
    refine TC.skip' ?_
    refine TC.block ?_
    refine TC.seq ?_
    refine TC.region ?_
    refine TL.run1 (pure_assign rfl) rfl ?_
    refine TL.run1 (pure_assign rfl) rfl ?_
    refine TL.nil' ?_
    refine TC.seq ?_
    refine TC.drawCut [18, 19, 20, 21, 22, 23, 24, 25, 26, 27, 28, 29, 30, 31, 32, 33, 34, 35, 36, 37, 38, 39, 40] 40 (k = b.length ∨ i < a.length ∧ (pAt a i).1 ≤ (pAt b k).1) Ty.follows (by kernel_rfl) ?_ ?_
    · skip
      refine TD.run1 (pure_move rfl) rfl ?_
      first | refine TD.run1 (pure_load1 Ty.one31 rfl) rfl ?_ | refine TD.run1 (pure_load1_own Ty.one31 rfl (by repeat (first | exact List.Mem.head _ | apply List.Mem.tail)) (by repeat (first | exact DropR.zero _ | apply DropR.succ))) rfl ?_
      first | refine TD.run1 (pure_len Ty.sl31 rfl) rfl ?_ | refine TD.run1 (pure_len_row Ty.sl31 rfl (by repeat (first | exact List.Mem.head _ | apply List.Mem.tail))) rfl ?_ | refine TD.run1 (pure_len_nil Ty.sl31 rfl) rfl ?_
      refine TD.run1 (pure_eql rfl rfl) rfl ?_
      refine TD.run1 (pure_move rfl) rfl ?_
      first | refine TD.splitP 22 rfl (fun hg22 => ?_) (fun hg22 => ?_) | refine TD.split 22 rfl (fun hg22 => ?_) (fun hg22 => ?_)
      · try dsimp only at hg22
        refine TD.passG rfl rfl rfl rfl ?_
        refine TD.passG rfl rfl rfl rfl ?_
        refine TD.passG rfl rfl rfl rfl ?_
        refine TD.passG rfl rfl rfl rfl ?_
        refine TD.passG rfl rfl rfl rfl ?_
        refine TD.passG rfl rfl rfl rfl ?_
        refine TD.passG rfl rfl rfl rfl ?_
        refine TD.passG rfl rfl rfl rfl ?_
        refine TD.passG rfl rfl rfl rfl ?_
        refine TD.passG rfl rfl rfl rfl ?_
        refine TD.passG rfl rfl rfl rfl ?_
        refine TD.passG rfl rfl rfl rfl ?_
        refine TD.passG rfl rfl rfl rfl ?_
        refine TD.passG rfl rfl rfl rfl ?_
        refine TD.passG rfl rfl rfl rfl ?_
        refine TD.passG rfl rfl rfl rfl ?_
        refine TD.passG rfl rfl rfl rfl ?_
        refine TD.run1 (pure_pick_true rfl rfl) rfl ?_
        refine TD.cutEnd (by repeat (first | exact Same.refl _ _ | refine Same.put rfl ?_)) rfl ?_
        first | (simp only [decide_eq_true_eq, Bool.false_eq_true, false_iff, true_iff, iff_true, iff_false, Bool.not_eq_true]; omega) | (simp_all; done) | (simp_all; omega) | grind
      · try dsimp only at hg22
        refine TD.runG rfl rfl (pure_move rfl) rfl ?_
        first | refine TD.runG rfl rfl (pure_load1 Ty.one31 rfl) rfl ?_ | refine TD.runG rfl rfl (pure_load1_own Ty.one31 rfl (by repeat (first | exact List.Mem.head _ | apply List.Mem.tail)) (by repeat (first | exact DropR.zero _ | apply DropR.succ))) rfl ?_
        first | refine TD.runG rfl rfl (pure_len Ty.sl31 rfl) rfl ?_ | refine TD.runG rfl rfl (pure_len_row Ty.sl31 rfl (by repeat (first | exact List.Mem.head _ | apply List.Mem.tail))) rfl ?_ | refine TD.runG rfl rfl (pure_len_nil Ty.sl31 rfl) rfl ?_
        refine TD.runG rfl rfl (pure_lss rfl rfl) rfl ?_
        refine TD.runG rfl rfl (pure_move rfl) rfl ?_
        first | refine TD.splitP 27 rfl (fun hg27 => ?_) (fun hg27 => ?_) | refine TD.split 27 rfl (fun hg27 => ?_) (fun hg27 => ?_)
        · try dsimp only at hg27
          have hra := encP_get a i (by omega) (by omega)
          have hrb := encP_get b k (by omega) (by omega)
          first | refine TD.runG rfl rfl (pure_load1 Ty.one31 rfl) rfl ?_ | refine TD.runG rfl rfl (pure_load1_own Ty.one31 rfl (by repeat (first | exact List.Mem.head _ | apply List.Mem.tail)) (by repeat (first | exact DropR.zero _ | apply DropR.succ))) rfl ?_
          refine TD.runG rfl rfl (pure_move rfl) rfl ?_
          refine TD.runG rfl rfl (pure_indexAddr Ty.sl31 rfl rfl (by omega) (by assumption) (List.cons_ne_nil _ _)) rfl ?_
          first | refine TD.runG rfl rfl (pure_fieldAddr Ty.f59_0 rfl (.zero _) (List.cons_ne_nil _ _)) rfl ?_ | refine TD.runG rfl rfl (pure_fieldAddr_own Ty.f59_0 rfl) rfl ?_
          first | refine TD.runG rfl rfl (pure_load1 Ty.one3 rfl) rfl ?_ | refine TD.runG rfl rfl (pure_load1_own Ty.one3 rfl (by repeat (first | exact List.Mem.head _ | apply List.Mem.tail)) (by repeat (first | exact DropR.zero _ | apply DropR.succ))) rfl ?_
          first | refine TD.runG rfl rfl (pure_load1 Ty.one31 rfl) rfl ?_ | refine TD.runG rfl rfl (pure_load1_own Ty.one31 rfl (by repeat (first | exact List.Mem.head _ | apply List.Mem.tail)) (by repeat (first | exact DropR.zero _ | apply DropR.succ))) rfl ?_
          refine TD.runG rfl rfl (pure_move rfl) rfl ?_
          refine TD.runG rfl rfl (pure_indexAddr Ty.sl31 rfl rfl (by omega) (by assumption) (List.cons_ne_nil _ _)) rfl ?_
          first | refine TD.runG rfl rfl (pure_fieldAddr Ty.f59_0 rfl (.zero _) (List.cons_ne_nil _ _)) rfl ?_ | refine TD.runG rfl rfl (pure_fieldAddr_own Ty.f59_0 rfl) rfl ?_
          first | refine TD.runG rfl rfl (pure_load1 Ty.one3 rfl) rfl ?_ | refine TD.runG rfl rfl (pure_load1_own Ty.one3 rfl (by repeat (first | exact List.Mem.head _ | apply List.Mem.tail)) (by repeat (first | exact DropR.zero _ | apply DropR.succ))) rfl ?_
          refine TD.runG rfl rfl (pure_leq rfl rfl) rfl ?_
          refine TD.runG rfl rfl (pure_pick_true rfl rfl) rfl ?_
          refine TD.run1 (pure_pick_false rfl rfl) rfl ?_
          refine TD.cutEnd (by repeat (first | exact Same.refl _ _ | refine Same.put rfl ?_)) rfl ?_
          first | (simp only [decide_eq_true_eq, Bool.false_eq_true, false_iff, true_iff, iff_true, iff_false, Bool.not_eq_true]; omega) | (simp_all; done) | (simp_all; omega) | grind
        · try dsimp only at hg27
          refine TD.passG rfl rfl rfl rfl ?_
          refine TD.passG rfl rfl rfl rfl ?_
          refine TD.passG rfl rfl rfl rfl ?_
          refine TD.passG rfl rfl rfl rfl ?_
          refine TD.passG rfl rfl rfl rfl ?_
          refine TD.passG rfl rfl rfl rfl ?_
          refine TD.passG rfl rfl rfl rfl ?_
          refine TD.passG rfl rfl rfl rfl ?_
          refine TD.passG rfl rfl rfl rfl ?_
          refine TD.passG rfl rfl rfl rfl ?_
          refine TD.passG rfl rfl rfl rfl ?_
          refine TD.runG rfl rfl (pure_pick_false rfl rfl) rfl ?_
          refine TD.run1 (pure_pick_false rfl rfl) rfl ?_
          refine TD.cutEnd (by repeat (first | exact Same.refl _ _ | refine Same.put rfl ?_)) rfl ?_
          first | (simp only [decide_eq_true_eq, Bool.false_eq_true, false_iff, true_iff, iff_true, iff_false, Bool.not_eq_true]; omega) | (simp_all; done) | (simp_all; omega) | grind
    first | refine TC.condD rfl (fun hc40 => ?_) (fun hc40 => ?_) | refine TC.condN rfl (fun hc40 => ?_) (fun hc40 => ?_) | refine TC.cond rfl (fun hc40 => ?_) (fun hc40 => ?_)
    · try dsimp only at hc40
      have hra := encP_get a i (by omega) (by omega)
      refine TC.region ?_
      first | refine TL.run1 (pure_load1 Ty.one31 rfl) rfl ?_ | refine TL.run1 (pure_load1_own Ty.one31 rfl (by repeat (first | exact List.Mem.head _ | apply List.Mem.tail)) (by repeat (first | exact DropR.zero _ | apply DropR.succ))) rfl ?_
      refine TL.run1 (pure_move rfl) rfl ?_
      refine TL.run1 (pure_indexAddr Ty.sl31 rfl rfl (by omega) (by assumption) (List.cons_ne_nil _ _)) rfl ?_
      refine TL.run1 (pure_assign rfl) rfl ?_
      refine TL.nil' ?_
      refine TC.seq ?_
      refine TC.drawCut [44, 45, 46, 47, 48, 49, 50, 51, 52, 53, 54, 55, 56, 57, 58, 59, 60, 61, 62, 63, 64, 65, 66] 66 (i = a.length ∨ k < b.length ∧ (pAt b k).1 ≤ (pAt a i).1) Ty.follows (by kernel_rfl) ?_ ?_
      · skip
        refine TD.run1 (pure_move rfl) rfl ?_
        first | refine TD.run1 (pure_load1 Ty.one31 rfl) rfl ?_ | refine TD.run1 (pure_load1_own Ty.one31 rfl (by repeat (first | exact List.Mem.head _ | apply List.Mem.tail)) (by repeat (first | exact DropR.zero _ | apply DropR.succ))) rfl ?_
        first | refine TD.run1 (pure_len Ty.sl31 rfl) rfl ?_ | refine TD.run1 (pure_len_row Ty.sl31 rfl (by repeat (first | exact List.Mem.head _ | apply List.Mem.tail))) rfl ?_ | refine TD.run1 (pure_len_nil Ty.sl31 rfl) rfl ?_
        refine TD.run1 (pure_eql rfl rfl) rfl ?_
        refine TD.run1 (pure_move rfl) rfl ?_
        first | refine TD.splitP 48 rfl (fun hg48 => ?_) (fun hg48 => ?_) | refine TD.split 48 rfl (fun hg48 => ?_) (fun hg48 => ?_)
        · try dsimp only at hg48
          refine TD.passG rfl rfl rfl rfl ?_
          refine TD.passG rfl rfl rfl rfl ?_
          refine TD.passG rfl rfl rfl rfl ?_
          refine TD.passG rfl rfl rfl rfl ?_
          refine TD.passG rfl rfl rfl rfl ?_
          refine TD.passG rfl rfl rfl rfl ?_
          refine TD.passG rfl rfl rfl rfl ?_
          refine TD.passG rfl rfl rfl rfl ?_
          refine TD.passG rfl rfl rfl rfl ?_
          refine TD.passG rfl rfl rfl rfl ?_
          refine TD.passG rfl rfl rfl rfl ?_
          refine TD.passG rfl rfl rfl rfl ?_
          refine TD.passG rfl rfl rfl rfl ?_
          refine TD.passG rfl rfl rfl rfl ?_
          refine TD.passG rfl rfl rfl rfl ?_
          refine TD.passG rfl rfl rfl rfl ?_
          refine TD.passG rfl rfl rfl rfl ?_
          refine TD.run1 (pure_pick_true rfl rfl) rfl ?_
          refine TD.cutEnd (by repeat (first | exact Same.refl _ _ | refine Same.put rfl ?_)) rfl ?_
          first | (simp only [decide_eq_true_eq, Bool.false_eq_true, false_iff, true_iff, iff_true, iff_false, Bool.not_eq_true]; omega) | (simp_all; done) | (simp_all; omega) | grind
        · try dsimp only at hg48
          refine TD.runG rfl rfl (pure_move rfl) rfl ?_
          first | refine TD.runG rfl rfl (pure_load1 Ty.one31 rfl) rfl ?_ | refine TD.runG rfl rfl (pure_load1_own Ty.one31 rfl (by repeat (first | exact List.Mem.head _ | apply List.Mem.tail)) (by repeat (first | exact DropR.zero _ | apply DropR.succ))) rfl ?_
          first | refine TD.runG rfl rfl (pure_len Ty.sl31 rfl) rfl ?_ | refine TD.runG rfl rfl (pure_len_row Ty.sl31 rfl (by repeat (first | exact List.Mem.head _ | apply List.Mem.tail))) rfl ?_ | refine TD.runG rfl rfl (pure_len_nil Ty.sl31 rfl) rfl ?_
          refine TD.runG rfl rfl (pure_lss rfl rfl) rfl ?_
          refine TD.runG rfl rfl (pure_move rfl) rfl ?_
          first | refine TD.splitP 53 rfl (fun hg53 => ?_) (fun hg53 => ?_) | refine TD.split 53 rfl (fun hg53 => ?_) (fun hg53 => ?_)
          · try dsimp only at hg53
            have hra := encP_get a i (by omega) (by omega)
            have hrb := encP_get b k (by omega) (by omega)
            first | refine TD.runG rfl rfl (pure_load1 Ty.one31 rfl) rfl ?_ | refine TD.runG rfl rfl (pure_load1_own Ty.one31 rfl (by repeat (first | exact List.Mem.head _ | apply List.Mem.tail)) (by repeat (first | exact DropR.zero _ | apply DropR.succ))) rfl ?_
            refine TD.runG rfl rfl (pure_move rfl) rfl ?_
            refine TD.runG rfl rfl (pure_indexAddr Ty.sl31 rfl rfl (by omega) (by assumption) (List.cons_ne_nil _ _)) rfl ?_
            first | refine TD.runG rfl rfl (pure_fieldAddr Ty.f59_0 rfl (.zero _) (List.cons_ne_nil _ _)) rfl ?_ | refine TD.runG rfl rfl (pure_fieldAddr_own Ty.f59_0 rfl) rfl ?_
            first | refine TD.runG rfl rfl (pure_load1 Ty.one3 rfl) rfl ?_ | refine TD.runG rfl rfl (pure_load1_own Ty.one3 rfl (by repeat (first | exact List.Mem.head _ | apply List.Mem.tail)) (by repeat (first | exact DropR.zero _ | apply DropR.succ))) rfl ?_
            first | refine TD.runG rfl rfl (pure_load1 Ty.one31 rfl) rfl ?_ | refine TD.runG rfl rfl (pure_load1_own Ty.one31 rfl (by repeat (first | exact List.Mem.head _ | apply List.Mem.tail)) (by repeat (first | exact DropR.zero _ | apply DropR.succ))) rfl ?_
            refine TD.runG rfl rfl (pure_move rfl) rfl ?_
            refine TD.runG rfl rfl (pure_indexAddr Ty.sl31 rfl rfl (by omega) (by assumption) (List.cons_ne_nil _ _)) rfl ?_
            first | refine TD.runG rfl rfl (pure_fieldAddr Ty.f59_0 rfl (.zero _) (List.cons_ne_nil _ _)) rfl ?_ | refine TD.runG rfl rfl (pure_fieldAddr_own Ty.f59_0 rfl) rfl ?_
            first | refine TD.runG rfl rfl (pure_load1 Ty.one3 rfl) rfl ?_ | refine TD.runG rfl rfl (pure_load1_own Ty.one3 rfl (by repeat (first | exact List.Mem.head _ | apply List.Mem.tail)) (by repeat (first | exact DropR.zero _ | apply DropR.succ))) rfl ?_
            refine TD.runG rfl rfl (pure_leq rfl rfl) rfl ?_
            refine TD.runG rfl rfl (pure_pick_true rfl rfl) rfl ?_
            refine TD.run1 (pure_pick_false rfl rfl) rfl ?_
            refine TD.cutEnd (by repeat (first | exact Same.refl _ _ | refine Same.put rfl ?_)) rfl ?_
            first | (simp only [decide_eq_true_eq, Bool.false_eq_true, false_iff, true_iff, iff_true, iff_false, Bool.not_eq_true]; omega) | (simp_all; done) | (simp_all; omega) | grind
          · try dsimp only at hg53
            refine TD.passG rfl rfl rfl rfl ?_
            refine TD.passG rfl rfl rfl rfl ?_
            refine TD.passG rfl rfl rfl rfl ?_
            refine TD.passG rfl rfl rfl rfl ?_
            refine TD.passG rfl rfl rfl rfl ?_
            refine TD.passG rfl rfl rfl rfl ?_
            refine TD.passG rfl rfl rfl rfl ?_
            refine TD.passG rfl rfl rfl rfl ?_
            refine TD.passG rfl rfl rfl rfl ?_
            refine TD.passG rfl rfl rfl rfl ?_
            refine TD.passG rfl rfl rfl rfl ?_
            refine TD.runG rfl rfl (pure_pick_false rfl rfl) rfl ?_
            refine TD.run1 (pure_pick_false rfl rfl) rfl ?_
            refine TD.cutEnd (by repeat (first | exact Same.refl _ _ | refine Same.put rfl ?_)) rfl ?_
            first | (simp only [decide_eq_true_eq, Bool.false_eq_true, false_iff, true_iff, iff_true, iff_false, Bool.not_eq_true]; omega) | (simp_all; done) | (simp_all; omega) | grind
      first | refine TC.condD rfl (fun hc66 => ?_) (fun hc66 => ?_) | refine TC.condN rfl (fun hc66 => ?_) (fun hc66 => ?_) | refine TC.cond rfl (fun hc66 => ?_) (fun hc66 => ?_)
      · try dsimp only at hc66
        have hrb := encP_get b k (by omega) (by omega)
        refine TC.region ?_
        first | refine TL.run1 (pure_load1 Ty.one31 rfl) rfl ?_ | refine TL.run1 (pure_load1_own Ty.one31 rfl (by repeat (first | exact List.Mem.head _ | apply List.Mem.tail)) (by repeat (first | exact DropR.zero _ | apply DropR.succ))) rfl ?_
        refine TL.run1 (pure_move rfl) rfl ?_
        refine TL.run1 (pure_indexAddr Ty.sl31 rfl rfl (by omega) (by assumption) (List.cons_ne_nil _ _)) rfl ?_
        refine TL.run1 (pure_assign rfl) rfl ?_
        refine TL.nil' ?_
        refine TC.seq ?_
        refine TC.seq ?_
        refine TC.region ?_
        refine TL.run1 (pure_move rfl) rfl ?_
        first | refine TL.run1 (pure_neq_at Try.underlying79 rfl rfl) rfl ?_ | refine TL.run1 (pure_neq_nil Try.underlying79 rfl rfl) rfl ?_
        refine TL.nil' ?_
        first | refine TC.condD rfl (fun hc71 => ?_) (fun hc71 => ?_) | refine TC.condN rfl (fun hc71 => ?_) (fun hc71 => ?_) | refine TC.cond rfl (fun hc71 => ?_) (fun hc71 => ?_)
        · try dsimp only at hc71
          refine TC.region ?_
          refine TL.run1 (pure_move rfl) rfl ?_
          refine TL.run1 (pure_add rfl rfl (mkI64 (by omega) (by omega))) rfl ?_
          refine TL.run1 (pure_assign rfl) rfl ?_
          refine TL.nil' ?_
          refine TC.seq ?_
          refine TC.seq ?_
          refine TC.region ?_
          refine TL.run1 (pure_move rfl) rfl ?_
          first | refine TL.run1 (pure_neq_at Try.underlying79 rfl rfl) rfl ?_ | refine TL.run1 (pure_neq_nil Try.underlying79 rfl rfl) rfl ?_
          refine TL.nil' ?_
          first | refine TC.condD rfl (fun hc75 => ?_) (fun hc75 => ?_) | refine TC.condN rfl (fun hc75 => ?_) (fun hc75 => ?_) | refine TC.cond rfl (fun hc75 => ?_) (fun hc75 => ?_)
          · try dsimp only at hc75
            refine TC.region ?_
            refine TL.run1 (pure_move rfl) rfl ?_
            refine TL.run1 (pure_add rfl rfl (mkI64 (by omega) (by omega))) rfl ?_
            refine TL.run1 (pure_assign rfl) rfl ?_
            refine TL.nil' ?_
            refine TC.seq ?_
            have hp := pairs_xy h0 h1 h2 h3 hc40 hc66 hc17
            rw [hp] at hd
            have hxn : (encPairs (pairsL a b))[n]? = some [.at_ [.v (.int .i64 (pAt a i).1), .v (.int .i64 (pAt a i).2)], .at_ [.v (.int .i64 (pAt b k).1), .v (.int .i64 (pAt b k).2)]] := by
              have h := congrArg (fun l => l[0]?) hd
              simp only [List.getElem?_drop, Nat.add_zero] at h
              rw [h]; rfl
            have hd2 : (encPairs (pairsL a b)).drop (n + 1) = encPairs (pairsL (a.drop (i + 1).toNat) (b.drop (k + 1).toNat)) := by
              have h := congrArg List.tail hd
              rw [List.tail_drop] at h
              rw [h]; rfl
            have hnl : n < (encPairs (pairsL a b)).length := (List.getElem?_eq_some_iff.1 hxn).1
            refine TC.region ?_
            refine TL.run1 (pure_move rfl) rfl ?_
            refine TL.run1 (pure_move rfl) rfl ?_
            refine TL.run1 (pure_move rfl) rfl ?_
            refine TL.yield rfl (SplitR.all _) rfl (hy n _ Hc hxn hJ) (.cons rfl (.cons rfl .nil)) (by intro t ht; cases ht; exact (by decide : (81 : Nat) < 83)) (fun bb H1 hR => ?_)
            rw [List.append_nil]
            refine TL.run1 (pure_not rfl) rfl ?_
            refine TL.nil' ?_
            first | refine TC.condD rfl (fun hc82 => ?_) (fun hc82 => ?_) | refine TC.condN rfl (fun hc82 => ?_) (fun hc82 => ?_) | refine TC.cond rfl (fun hc82 => ?_) (fun hc82 => ?_)
            · try dsimp only at hc82
              have hcy : bb = false := by simpa using hc82
              refine TC.ret ?_
              refine block_ret ?_
              refine loop_ret ?_
              refine block_ret ?_
              exact ⟨.inl rfl, [], .nil, H1, List.Sublist.refl _, .inr ⟨n + 1, by (have h := hR; simp only [hcy, Bool.false_eq_true, if_false] at h; exact h)⟩⟩
            · try dsimp only at hc82
              have hcy : bb = true := by simpa using hc82
              refine TC.skip ?_
              refine block_normal ?_
              refine loop_next (i + 1, k + 1, n + 1, H1) ⟨by repeat (first | exact Agree.nil | refine Agree.cons rfl ?_), by repeat (first | exact List.nil_sublist _ | exact List.Sublist.refl _ | apply List.Sublist.cons_cons | apply List.Sublist.cons)⟩ ⟨by omega, by omega, by omega, by omega, by omega, by (have h := hR; simp only [hcy, if_true] at h; exact h), hd2⟩ (by dsimp only; omega)
          · try dsimp only at hc75
            exact absurd hc75 (by simp)
        · try dsimp only at hc71
          exact absurd hc71 (by simp)
      · try dsimp only at hc66
        refine TC.skip' ?_
        refine TC.seq ?_
        refine TC.seq ?_
        refine TC.region ?_
        refine TL.run1 (pure_move rfl) rfl ?_
        first | refine TL.run1 (pure_neq_at Try.underlying79 rfl rfl) rfl ?_ | refine TL.run1 (pure_neq_nil Try.underlying79 rfl rfl) rfl ?_
        refine TL.nil' ?_
        first | refine TC.condD rfl (fun hc71 => ?_) (fun hc71 => ?_) | refine TC.condN rfl (fun hc71 => ?_) (fun hc71 => ?_) | refine TC.cond rfl (fun hc71 => ?_) (fun hc71 => ?_)
        · try dsimp only at hc71
          refine TC.region ?_
          refine TL.run1 (pure_move rfl) rfl ?_
          refine TL.run1 (pure_add rfl rfl (mkI64 (by omega) (by omega))) rfl ?_
          refine TL.run1 (pure_assign rfl) rfl ?_
          refine TL.nil' ?_
          refine TC.seq ?_
          refine TC.seq ?_
          refine TC.region ?_
          refine TL.run1 (pure_move rfl) rfl ?_
          first | refine TL.run1 (pure_neq_at Try.underlying79 rfl rfl) rfl ?_ | refine TL.run1 (pure_neq_nil Try.underlying79 rfl rfl) rfl ?_
          refine TL.nil' ?_
          first | refine TC.condD rfl (fun hc75 => ?_) (fun hc75 => ?_) | refine TC.condN rfl (fun hc75 => ?_) (fun hc75 => ?_) | refine TC.cond rfl (fun hc75 => ?_) (fun hc75 => ?_)
          · try dsimp only at hc75
            exact absurd hc75 (by simp)
          · try dsimp only at hc75
            refine TC.skip' ?_
            refine TC.seq ?_
            have hp := pairs_x h0 h1 h2 h3 hc40 hc66 hc17
            rw [hp] at hd
            have hxn : (encPairs (pairsL a b))[n]? = some [.at_ [.v (.int .i64 (pAt a i).1), .v (.int .i64 (pAt a i).2)], .v (.pointer none)] := by
              have h := congrArg (fun l => l[0]?) hd
              simp only [List.getElem?_drop, Nat.add_zero] at h
              rw [h]; rfl
            have hd2 : (encPairs (pairsL a b)).drop (n + 1) = encPairs (pairsL (a.drop (i + 1).toNat) (b.drop k.toNat)) := by
              have h := congrArg List.tail hd
              rw [List.tail_drop] at h
              rw [h]; rfl
            have hnl : n < (encPairs (pairsL a b)).length := (List.getElem?_eq_some_iff.1 hxn).1
            refine TC.region ?_
            refine TL.run1 (pure_move rfl) rfl ?_
            refine TL.run1 (pure_move rfl) rfl ?_
            refine TL.run1 (pure_move rfl) rfl ?_
            refine TL.yield rfl (SplitR.all _) rfl (hy n _ Hc hxn hJ) (.cons rfl (.cons rfl .nil)) (by intro t ht; cases ht; exact (by decide : (81 : Nat) < 83)) (fun bb H1 hR => ?_)
            rw [List.append_nil]
            refine TL.run1 (pure_not rfl) rfl ?_
            refine TL.nil' ?_
            first | refine TC.condD rfl (fun hc82 => ?_) (fun hc82 => ?_) | refine TC.condN rfl (fun hc82 => ?_) (fun hc82 => ?_) | refine TC.cond rfl (fun hc82 => ?_) (fun hc82 => ?_)
            · try dsimp only at hc82
              have hcy : bb = false := by simpa using hc82
              refine TC.ret ?_
              refine block_ret ?_
              refine loop_ret ?_
              refine block_ret ?_
              exact ⟨.inl rfl, [], .nil, H1, List.Sublist.refl _, .inr ⟨n + 1, by (have h := hR; simp only [hcy, Bool.false_eq_true, if_false] at h; exact h)⟩⟩
            · try dsimp only at hc82
              have hcy : bb = true := by simpa using hc82
              refine TC.skip ?_
              refine block_normal ?_
              refine loop_next (i + 1, k, n + 1, H1) ⟨by repeat (first | exact Agree.nil | refine Agree.cons rfl ?_), by repeat (first | exact List.nil_sublist _ | exact List.Sublist.refl _ | apply List.Sublist.cons_cons | apply List.Sublist.cons)⟩ ⟨by omega, by omega, by omega, by omega, by omega, by (have h := hR; simp only [hcy, if_true] at h; exact h), hd2⟩ (by dsimp only; omega)
        · try dsimp only at hc71
          exact absurd hc71 (by simp)
    · try dsimp only at hc40
      refine TC.skip' ?_
      refine TC.seq ?_
      refine TC.drawCut [44, 45, 46, 47, 48, 49, 50, 51, 52, 53, 54, 55, 56, 57, 58, 59, 60, 61, 62, 63, 64, 65, 66] 66 (i = a.length ∨ k < b.length ∧ (pAt b k).1 ≤ (pAt a i).1) Ty.follows (by kernel_rfl) ?_ ?_
      · skip
        refine TD.run1 (pure_move rfl) rfl ?_
        first | refine TD.run1 (pure_load1 Ty.one31 rfl) rfl ?_ | refine TD.run1 (pure_load1_own Ty.one31 rfl (by repeat (first | exact List.Mem.head _ | apply List.Mem.tail)) (by repeat (first | exact DropR.zero _ | apply DropR.succ))) rfl ?_
        first | refine TD.run1 (pure_len Ty.sl31 rfl) rfl ?_ | refine TD.run1 (pure_len_row Ty.sl31 rfl (by repeat (first | exact List.Mem.head _ | apply List.Mem.tail))) rfl ?_ | refine TD.run1 (pure_len_nil Ty.sl31 rfl) rfl ?_
        refine TD.run1 (pure_eql rfl rfl) rfl ?_
        refine TD.run1 (pure_move rfl) rfl ?_
        first | refine TD.splitP 48 rfl (fun hg48 => ?_) (fun hg48 => ?_) | refine TD.split 48 rfl (fun hg48 => ?_) (fun hg48 => ?_)
        · try dsimp only at hg48
          refine TD.passG rfl rfl rfl rfl ?_
          refine TD.passG rfl rfl rfl rfl ?_
          refine TD.passG rfl rfl rfl rfl ?_
          refine TD.passG rfl rfl rfl rfl ?_
          refine TD.passG rfl rfl rfl rfl ?_
          refine TD.passG rfl rfl rfl rfl ?_
          refine TD.passG rfl rfl rfl rfl ?_
          refine TD.passG rfl rfl rfl rfl ?_
          refine TD.passG rfl rfl rfl rfl ?_
          refine TD.passG rfl rfl rfl rfl ?_
          refine TD.passG rfl rfl rfl rfl ?_
          refine TD.passG rfl rfl rfl rfl ?_
          refine TD.passG rfl rfl rfl rfl ?_
          refine TD.passG rfl rfl rfl rfl ?_
          refine TD.passG rfl rfl rfl rfl ?_
          refine TD.passG rfl rfl rfl rfl ?_
          refine TD.passG rfl rfl rfl rfl ?_
          refine TD.run1 (pure_pick_true rfl rfl) rfl ?_
          refine TD.cutEnd (by repeat (first | exact Same.refl _ _ | refine Same.put rfl ?_)) rfl ?_
          first | (simp only [decide_eq_true_eq, Bool.false_eq_true, false_iff, true_iff, iff_true, iff_false, Bool.not_eq_true]; omega) | (simp_all; done) | (simp_all; omega) | grind
        · try dsimp only at hg48
          refine TD.runG rfl rfl (pure_move rfl) rfl ?_
          first | refine TD.runG rfl rfl (pure_load1 Ty.one31 rfl) rfl ?_ | refine TD.runG rfl rfl (pure_load1_own Ty.one31 rfl (by repeat (first | exact List.Mem.head _ | apply List.Mem.tail)) (by repeat (first | exact DropR.zero _ | apply DropR.succ))) rfl ?_
          first | refine TD.runG rfl rfl (pure_len Ty.sl31 rfl) rfl ?_ | refine TD.runG rfl rfl (pure_len_row Ty.sl31 rfl (by repeat (first | exact List.Mem.head _ | apply List.Mem.tail))) rfl ?_ | refine TD.runG rfl rfl (pure_len_nil Ty.sl31 rfl) rfl ?_
          refine TD.runG rfl rfl (pure_lss rfl rfl) rfl ?_
          refine TD.runG rfl rfl (pure_move rfl) rfl ?_
          first | refine TD.splitP 53 rfl (fun hg53 => ?_) (fun hg53 => ?_) | refine TD.split 53 rfl (fun hg53 => ?_) (fun hg53 => ?_)
          · try dsimp only at hg53
            have hra := encP_get a i (by omega) (by omega)
            have hrb := encP_get b k (by omega) (by omega)
            first | refine TD.runG rfl rfl (pure_load1 Ty.one31 rfl) rfl ?_ | refine TD.runG rfl rfl (pure_load1_own Ty.one31 rfl (by repeat (first | exact List.Mem.head _ | apply List.Mem.tail)) (by repeat (first | exact DropR.zero _ | apply DropR.succ))) rfl ?_
            refine TD.runG rfl rfl (pure_move rfl) rfl ?_
            refine TD.runG rfl rfl (pure_indexAddr Ty.sl31 rfl rfl (by omega) (by assumption) (List.cons_ne_nil _ _)) rfl ?_
            first | refine TD.runG rfl rfl (pure_fieldAddr Ty.f59_0 rfl (.zero _) (List.cons_ne_nil _ _)) rfl ?_ | refine TD.runG rfl rfl (pure_fieldAddr_own Ty.f59_0 rfl) rfl ?_
            first | refine TD.runG rfl rfl (pure_load1 Ty.one3 rfl) rfl ?_ | refine TD.runG rfl rfl (pure_load1_own Ty.one3 rfl (by repeat (first | exact List.Mem.head _ | apply List.Mem.tail)) (by repeat (first | exact DropR.zero _ | apply DropR.succ))) rfl ?_
            first | refine TD.runG rfl rfl (pure_load1 Ty.one31 rfl) rfl ?_ | refine TD.runG rfl rfl (pure_load1_own Ty.one31 rfl (by repeat (first | exact List.Mem.head _ | apply List.Mem.tail)) (by repeat (first | exact DropR.zero _ | apply DropR.succ))) rfl ?_
            refine TD.runG rfl rfl (pure_move rfl) rfl ?_
            refine TD.runG rfl rfl (pure_indexAddr Ty.sl31 rfl rfl (by omega) (by assumption) (List.cons_ne_nil _ _)) rfl ?_
            first | refine TD.runG rfl rfl (pure_fieldAddr Ty.f59_0 rfl (.zero _) (List.cons_ne_nil _ _)) rfl ?_ | refine TD.runG rfl rfl (pure_fieldAddr_own Ty.f59_0 rfl) rfl ?_
            first | refine TD.runG rfl rfl (pure_load1 Ty.one3 rfl) rfl ?_ | refine TD.runG rfl rfl (pure_load1_own Ty.one3 rfl (by repeat (first | exact List.Mem.head _ | apply List.Mem.tail)) (by repeat (first | exact DropR.zero _ | apply DropR.succ))) rfl ?_
            refine TD.runG rfl rfl (pure_leq rfl rfl) rfl ?_
            refine TD.runG rfl rfl (pure_pick_true rfl rfl) rfl ?_
            refine TD.run1 (pure_pick_false rfl rfl) rfl ?_
            refine TD.cutEnd (by repeat (first | exact Same.refl _ _ | refine Same.put rfl ?_)) rfl ?_
            first | (simp only [decide_eq_true_eq, Bool.false_eq_true, false_iff, true_iff, iff_true, iff_false, Bool.not_eq_true]; omega) | (simp_all; done) | (simp_all; omega) | grind
          · try dsimp only at hg53
            refine TD.passG rfl rfl rfl rfl ?_
            refine TD.passG rfl rfl rfl rfl ?_
            refine TD.passG rfl rfl rfl rfl ?_
            refine TD.passG rfl rfl rfl rfl ?_
            refine TD.passG rfl rfl rfl rfl ?_
            refine TD.passG rfl rfl rfl rfl ?_
            refine TD.passG rfl rfl rfl rfl ?_
            refine TD.passG rfl rfl rfl rfl ?_
            refine TD.passG rfl rfl rfl rfl ?_
            refine TD.passG rfl rfl rfl rfl ?_
            refine TD.passG rfl rfl rfl rfl ?_
            refine TD.runG rfl rfl (pure_pick_false rfl rfl) rfl ?_
            refine TD.run1 (pure_pick_false rfl rfl) rfl ?_
            refine TD.cutEnd (by repeat (first | exact Same.refl _ _ | refine Same.put rfl ?_)) rfl ?_
            first | (simp only [decide_eq_true_eq, Bool.false_eq_true, false_iff, true_iff, iff_true, iff_false, Bool.not_eq_true]; omega) | (simp_all; done) | (simp_all; omega) | grind
      first | refine TC.condD rfl (fun hc66 => ?_) (fun hc66 => ?_) | refine TC.condN rfl (fun hc66 => ?_) (fun hc66 => ?_) | refine TC.cond rfl (fun hc66 => ?_) (fun hc66 => ?_)
      · try dsimp only at hc66
        have hrb := encP_get b k (by omega) (by omega)
        refine TC.region ?_
        first | refine TL.run1 (pure_load1 Ty.one31 rfl) rfl ?_ | refine TL.run1 (pure_load1_own Ty.one31 rfl (by repeat (first | exact List.Mem.head _ | apply List.Mem.tail)) (by repeat (first | exact DropR.zero _ | apply DropR.succ))) rfl ?_
        refine TL.run1 (pure_move rfl) rfl ?_
        refine TL.run1 (pure_indexAddr Ty.sl31 rfl rfl (by omega) (by assumption) (List.cons_ne_nil _ _)) rfl ?_
        refine TL.run1 (pure_assign rfl) rfl ?_
        refine TL.nil' ?_
        refine TC.seq ?_
        refine TC.seq ?_
        refine TC.region ?_
        refine TL.run1 (pure_move rfl) rfl ?_
        first | refine TL.run1 (pure_neq_at Try.underlying79 rfl rfl) rfl ?_ | refine TL.run1 (pure_neq_nil Try.underlying79 rfl rfl) rfl ?_
        refine TL.nil' ?_
        first | refine TC.condD rfl (fun hc71 => ?_) (fun hc71 => ?_) | refine TC.condN rfl (fun hc71 => ?_) (fun hc71 => ?_) | refine TC.cond rfl (fun hc71 => ?_) (fun hc71 => ?_)
        · try dsimp only at hc71
          exact absurd hc71 (by simp)
        · try dsimp only at hc71
          refine TC.skip' ?_
          refine TC.seq ?_
          refine TC.seq ?_
          refine TC.region ?_
          refine TL.run1 (pure_move rfl) rfl ?_
          first | refine TL.run1 (pure_neq_at Try.underlying79 rfl rfl) rfl ?_ | refine TL.run1 (pure_neq_nil Try.underlying79 rfl rfl) rfl ?_
          refine TL.nil' ?_
          first | refine TC.condD rfl (fun hc75 => ?_) (fun hc75 => ?_) | refine TC.condN rfl (fun hc75 => ?_) (fun hc75 => ?_) | refine TC.cond rfl (fun hc75 => ?_) (fun hc75 => ?_)
          · try dsimp only at hc75
            refine TC.region ?_
            refine TL.run1 (pure_move rfl) rfl ?_
            refine TL.run1 (pure_add rfl rfl (mkI64 (by omega) (by omega))) rfl ?_
            refine TL.run1 (pure_assign rfl) rfl ?_
            refine TL.nil' ?_
            refine TC.seq ?_
            have hp := pairs_y h0 h1 h2 h3 hc40 hc66 hc17
            rw [hp] at hd
            have hxn : (encPairs (pairsL a b))[n]? = some [.v (.pointer none), .at_ [.v (.int .i64 (pAt b k).1), .v (.int .i64 (pAt b k).2)]] := by
              have h := congrArg (fun l => l[0]?) hd
              simp only [List.getElem?_drop, Nat.add_zero] at h
              rw [h]; rfl
            have hd2 : (encPairs (pairsL a b)).drop (n + 1) = encPairs (pairsL (a.drop i.toNat) (b.drop (k + 1).toNat)) := by
              have h := congrArg List.tail hd
              rw [List.tail_drop] at h
              rw [h]; rfl
            have hnl : n < (encPairs (pairsL a b)).length := (List.getElem?_eq_some_iff.1 hxn).1
            refine TC.region ?_
            refine TL.run1 (pure_move rfl) rfl ?_
            refine TL.run1 (pure_move rfl) rfl ?_
            refine TL.run1 (pure_move rfl) rfl ?_
            refine TL.yield rfl (SplitR.all _) rfl (hy n _ Hc hxn hJ) (.cons rfl (.cons rfl .nil)) (by intro t ht; cases ht; exact (by decide : (81 : Nat) < 83)) (fun bb H1 hR => ?_)
            rw [List.append_nil]
            refine TL.run1 (pure_not rfl) rfl ?_
            refine TL.nil' ?_
            first | refine TC.condD rfl (fun hc82 => ?_) (fun hc82 => ?_) | refine TC.condN rfl (fun hc82 => ?_) (fun hc82 => ?_) | refine TC.cond rfl (fun hc82 => ?_) (fun hc82 => ?_)
            · try dsimp only at hc82
              have hcy : bb = false := by simpa using hc82
              refine TC.ret ?_
              refine block_ret ?_
              refine loop_ret ?_
              refine block_ret ?_
              exact ⟨.inl rfl, [], .nil, H1, List.Sublist.refl _, .inr ⟨n + 1, by (have h := hR; simp only [hcy, Bool.false_eq_true, if_false] at h; exact h)⟩⟩
            · try dsimp only at hc82
              have hcy : bb = true := by simpa using hc82
              refine TC.skip ?_
              refine block_normal ?_
              refine loop_next (i, k + 1, n + 1, H1) ⟨by repeat (first | exact Agree.nil | refine Agree.cons rfl ?_), by repeat (first | exact List.nil_sublist _ | exact List.Sublist.refl _ | apply List.Sublist.cons_cons | apply List.Sublist.cons)⟩ ⟨by omega, by omega, by omega, by omega, by omega, by (have h := hR; simp only [hcy, if_true] at h; exact h), hd2⟩ (by dsimp only; omega)
          · try dsimp only at hc75
            exact absurd hc75 (by simp)
      · try dsimp only at hc66
        exfalso; omega
  · try dsimp only at hc17
    refine TC.exit ?_
    refine then_exit ?_
    refine loop_exit ?_
    refine block_here ?_
    have hend : n = (encPairs (pairsL a b)).length := by
      rw [drop_P_end a i (by omega), drop_P_end b k (by omega), show encPairs (pairsL [] []) = [] from by rw [pairsL]; rfl] at hd
      have := List.drop_eq_nil_iff.1 hd
      omega
    exact ⟨.inr rfl, [], .nil, Hc, List.Sublist.refl _, .inl (hend ▸ hJ)⟩
set_option maxRecDepth 100000 in
theorem pairs_spec (a b : List (Int × Int)) : Fun Try.prog 48 [.sl 2 (encP a), .sl 2 (encP b)] (.fn 60 [.at_ [.sl 2 (encP a)], .at_ [.sl 2 (encP b)]]) := by
  refine Fun.enterF (n := 6) (rs := [.tmp 4]) Try.func48 rfl Try.ntmps48 Try.results48 rfl (fun w F => ?_)
  refine TC.seq ?_
  refine TC.region ?_
  refine TL.box rfl (.one rfl) rfl (fun g2 => ?_)
  refine TL.box rfl (.one rfl) rfl (fun g3 => ?_)
  refine TL.run1 (pure_assign rfl) rfl ?_
  refine TL.nil' ?_
  refine TC.seq ?_
  refine TC.region ?_
  refine TL.run1 (pure_makeFunc (.cons rfl (.cons rfl .nil))) rfl ?_
  refine TL.run1 (pure_assign rfl) rfl ?_
  refine TL.nil' ?_
  refine TC.ret ?_
  exact retF1 (.inl rfl) rfl (.fnL (.cons (.boxS (by repeat (first | exact List.Mem.head _ | apply List.Mem.tail)) (List.cons_ne_nil _ _)) (.cons (.boxS (by repeat (first | exact List.Mem.head _ | apply List.Mem.tail)) (List.cons_ne_nil _ _)) .nil)))
set_option maxRecDepth 100000 in
theorem Merge_spec (a b : List (Int × Int)) (hla : a.length ≤ 1000000) (hlb : b.length ≤ 1000000) : Fun Try.prog 21 [.sl 2 (encP a), .sl 2 (encP b)] (.sl 2 (encP (mergeP a b))) := by
  refine Fun.enterF (n := 28) (rs := [.tmp 4]) Try.func21 rfl Try.ntmps21 Try.results21 rfl (fun w F => ?_)
  refine TC.seq ?_
  refine TC.region ?_
  refine TL.run1 (pure_assign rfl) rfl ?_
  refine TL.nil' ?_
  refine TC.seq ?_
  refine TC.region ?_
  refine TL.alloc Ty.zero31 rfl (fun g5 => ?_)
  refine TL.nil' ?_
  refine TC.seq ?_
  refine TC.seq ?_
  refine TC.nilrow 59 2 ?_
  refine TC.region ?_
  refine TL.run1 (pure_move rfl) rfl ?_
  refine TL.run1 (pure_move rfl) rfl ?_
  refine TL.run1 (pure_call (pairs_spec a b) (.cons rfl (.cons rfl .nil)) Try.call48) rfl ?_
  refine TL.nil' ?_
  refine TC.block ?_
  refine TC.rangeFunc (caps := [.at_ [.sl 2 (encP a)], .at_ [.sl 2 (encP b)]]) (xs := encPairs (pairsL a b)) rfl rfl Try.call60 (pairs_seq a b (by omega) (by omega)) (fun k H => ∃ v, H = [.row v 59 2 (encP ((mergeP a b).take k)), .box g5 31 [.v v]]) (fun _ _ => False) ⟨_, rfl⟩ ?_ (by rfl) ?_ ?_ ?_ ?_
  · skip
    intro x hx
    simp only [encPairs, List.mem_map] at hx
    obtain ⟨p, _, rfl⟩ := hx
    rfl
  · skip
    rintro k x Hc w F S l hx ⟨v, rfl⟩
    obtain ⟨⟨ox, oy⟩, hp, rfl⟩ := encPairs_get hx
    have hsm := pairs_some a b _ (List.mem_of_getElem? hp)
    have hpl := pairsL_len a b
    have hkl := (List.getElem?_eq_some_iff.1 hp).1
    dsimp only at hsm
    have hkm := encP_len ((mergeP a b).take k)
    have htm : ((mergeP a b).take k).length ≤ k := by rw [List.length_take]; omega
    refine TC.seq ?_
    refine TC.region ?_
    refine TL.run1 (pure_assign rfl) rfl ?_
    refine TL.nil' ?_
    refine TC.region ?_
    refine TL.run1 (pure_assign rfl) rfl ?_
    refine TL.nil ?_
    refine ⟨rfl, fun w F S => ?_⟩
    refine TC.block ?_
    refine TC.seq ?_
    refine TC.region ?_
    refine TL.run1 (pure_move rfl) rfl ?_
    refine TL.run1 (pure_neq_encO Try.underlying79 rfl rfl) rfl ?_
    refine TL.nil' ?_
    first | refine TC.condD rfl (fun hc14 => ?_) (fun hc14 => ?_) | refine TC.condN rfl (fun hc14 => ?_) (fun hc14 => ?_) | refine TC.cond rfl (fun hc14 => ?_) (fun hc14 => ?_)
    · try dsimp only at hc14
      obtain ⟨y, rfl⟩ := Option.isSome_iff_exists.1 hc14
      refine TC.drawTailN 5 Ty.follows (by kernel_rfl) (by kernel_rfl) ?_
      simp only [List.take_succ_cons, List.take_zero, List.drop_succ_cons, List.drop_zero]
      first | refine TD.run1 (pure_load1 Ty.one31 rfl) rfl ?_ | refine TD.run1 (pure_load1_own Ty.one31 rfl (by repeat (first | exact List.Mem.head _ | apply List.Mem.tail)) (by repeat (first | exact DropR.zero _ | apply DropR.succ))) rfl ?_
      refine TD.run1 (pure_move rfl) rfl ?_
      first | refine TD.run1 (pure_nilCheck rfl) rfl ?_ | refine TD.run1 (pure_nilCheck_own rfl) rfl ?_
      first | refine TD.run1 (pure_load Ty.agg59 rfl (.succ (.succ (.zero _)))) rfl ?_ | refine TD.run1 (pure_load_own Ty.agg59 rfl (by repeat (first | exact List.Mem.head _ | apply List.Mem.tail)) (by repeat (first | exact DropR.zero _ | apply DropR.succ)) (.succ (.succ (.zero _)))) rfl ?_
      refine TD.run1 (pure_buildSlice (xs := [.tmp 18]) Ty.app31 (by decide) rfl rfl (.cons rfl (.agg _) rfl .nil)) rfl ?_
      refine TD.nil ?_
      show TL _ _ _ _ _ _
      refine TL.append Ty.app31 rfl rfl (by intro _; repeat (first | exact UpdR.here _ | apply UpdR.there)) (by simp only [List.length_append, List.length_cons, List.length_nil]; omega) (by simp only [List.length_append, List.length_cons, List.length_nil]; omega) rfl (fun v20 hv20 => ?_)
      refine TL.store rfl rfl (.one (by first | rfl | assumption)) Try.sizeOf31 rfl (by repeat (first | exact UpdR.here _ | apply UpdR.there)) (by repeat (first | exact PutR.nil _ | apply PutR.here | apply PutR.skip)) ?_
      refine TL.nil ?_
      refine block_normal ?_
      exact ⟨_, by rw [mergeP_take hp, encP_snoc']; rfl⟩
    · try dsimp only at hc14
      have hox : ox.isSome = true := by rcases hsm with h | h; exact h; rw [h] at hc14; cases hc14
      obtain rfl : oy = none := by cases oy; rfl; cases hc14
      obtain ⟨x, rfl⟩ := Option.isSome_iff_exists.1 hox
      refine TC.drawTailN 5 Ty.follows (by kernel_rfl) (by kernel_rfl) ?_
      simp only [List.take_succ_cons, List.take_zero, List.drop_succ_cons, List.drop_zero]
      first | refine TD.run1 (pure_load1 Ty.one31 rfl) rfl ?_ | refine TD.run1 (pure_load1_own Ty.one31 rfl (by repeat (first | exact List.Mem.head _ | apply List.Mem.tail)) (by repeat (first | exact DropR.zero _ | apply DropR.succ))) rfl ?_
      refine TD.run1 (pure_move rfl) rfl ?_
      first | refine TD.run1 (pure_nilCheck rfl) rfl ?_ | refine TD.run1 (pure_nilCheck_own rfl) rfl ?_
      first | refine TD.run1 (pure_load Ty.agg59 rfl (.succ (.succ (.zero _)))) rfl ?_ | refine TD.run1 (pure_load_own Ty.agg59 rfl (by repeat (first | exact List.Mem.head _ | apply List.Mem.tail)) (by repeat (first | exact DropR.zero _ | apply DropR.succ)) (.succ (.succ (.zero _)))) rfl ?_
      refine TD.run1 (pure_buildSlice (xs := [.tmp 24]) Ty.app31 (by decide) rfl rfl (.cons rfl (.agg _) rfl .nil)) rfl ?_
      refine TD.nil ?_
      show TL _ _ _ _ _ _
      refine TL.append Ty.app31 rfl rfl (by intro _; repeat (first | exact UpdR.here _ | apply UpdR.there)) (by simp only [List.length_append, List.length_cons, List.length_nil]; omega) (by simp only [List.length_append, List.length_cons, List.length_nil]; omega) rfl (fun v26 hv26 => ?_)
      refine TL.store rfl rfl (.one (by first | rfl | assumption)) Try.sizeOf31 rfl (by repeat (first | exact UpdR.here _ | apply UpdR.there)) (by repeat (first | exact PutR.nil _ | apply PutR.here | apply PutR.skip)) ?_
      refine TL.nil ?_
      refine block_normal ?_
      exact ⟨_, by rw [mergeP_take hp, encP_snoc']; rfl⟩
  · skip
    rintro Hc ⟨v, rfl⟩
    refine block_normal ?_
    refine then_normal ?_
    refine TC.seq ?_
    refine TC.region ?_
    first | refine TL.run1 (pure_load1 Ty.one31 rfl) rfl ?_ | refine TL.run1 (pure_load1_own Ty.one31 rfl (by repeat (first | exact List.Mem.head _ | apply List.Mem.tail)) (by repeat (first | exact DropR.zero _ | apply DropR.succ))) rfl ?_
    refine TL.run1 (pure_assign rfl) rfl ?_
    refine TL.nil' ?_
    refine TC.ret ?_
    exact retF_row rfl (by repeat (first | exact List.Mem.head _ | apply List.Mem.tail)) (by decide) (encP_each _) (by rw [List.take_of_length_le (by simp [encPairs, mergeP])])
  · skip
    first | exact fun _ h => h.elim | exact fun _ _ h => h.elim
  · skip
    first | exact fun _ h => h.elim | exact fun _ _ h => h.elim
end Go.Ob
