import Derived.Test.YtcfnfioefbkamaaDoorS2
set_option linter.unusedVariables false
set_option linter.unusedSimpArgs false
namespace Go.Ob
open Go.Proofs
set_option maxHeartbeats 2000000 in
set_option maxRecDepth 100000 in
theorem word_spec (c b : List Int) (i : Nat) (hi : i < c.length) (hw : WrdP c i) (hc : c.length ≤ 1000000000) : Fun Tryd.prog 81 [.sl 3 ((encK c b).drop i)] (.tup [.v (.int .i64 ((endT c i - i : Nat) : Int)), .v (.int .i64 (kindT c i))]) := by
  refine Fun.enter (n := 100) (rs := [.tmp 2, .tmp 3]) Tryd.func81 rfl Tryd.ntmps81 Tryd.results81 rfl (fun w F => ?_)
  have hkl := encKd_len c b i
  refine TC.seq ?_; refine TC.region ?_; (iterate 2 refine TL.run1 (pure_assign rfl) rfl ?_); refine TL.nil' ?_; refine TC.seq ?_; refine TC.region ?_; refine TL.run1 (pure_assign rfl) rfl ?_; refine TL.nil' ?_; refine TC.seq ?_; refine TC.block ?_; refine TC.loopX (X := Nat) (fun n => [(0, .sl 3 ((encK c b).drop i)), (2, .v (.int .i64 n)), (3, .v (.int .i64 (wkTo c i n)))]) (fun n => []) (fun n => (n ≤ c.length - i) ∧ (∀ j, j < n → InsP c (i + j))) (fun n => c.length - i - n) (0) ⟨by skip; repeat (first | exact Agree.nil | refine Agree.cons rfl ?_), by skip; repeat (first | exact List.nil_sublist _ | exact List.Sublist.refl _ | apply List.Sublist.cons_cons | apply List.Sublist.cons)⟩ ?_ ?_
  · skip
    exact ⟨Nat.zero_le _, fun j h => by omega⟩
  intro n
  rintro ⟨h1, h2⟩
  show TC _ _ _ (Env.of [(0, .sl 3 ((encK c b).drop i)), (2, .v (.int .i64 n)), (3, .v (.int .i64 (wkTo c i n)))]) []
  (iterate 2 refine TC.seq ?_); refine TC.region ?_; (iterate 2 refine TL.run1 (pure_move rfl) rfl ?_); refine TL.run1 (pure_len Ty.sl62 rfl) rfl ?_; refine TL.run1 (pure_lss rfl rfl) rfl ?_; refine TL.nil' ?_; refine TC.condD rfl (fun hc7 => ?_) (fun hc7 => ?_)
  · try dsimp only at hc7
    refine TC.skip' ?_; refine TC.block ?_; refine TC.seq ?_; refine TC.block ?_; refine TC.seq ?_
    have hrow : ((encK c b).drop i)[((n : Nat) : Int).toNat]? = some [.v (.int .i64 (iAt c ((i + n : Nat) : Int))), .v (.int .i64 (iAt b ((i + n : Nat) : Int))), .v (.int .i64 (iAt b ((i + n + 1 : Nat) : Int)))] := encKd_get c b i n (by omega)
    refine TC.region ?_; (iterate 2 refine TL.run1 (pure_move rfl) rfl ?_); refine TL.run1 (pure_indexAddr Ty.sl62 rfl rfl (by omega) hrow (List.cons_ne_nil _ _)) rfl ?_; refine TL.run1 (pure_load Ty.agg77 rfl (.succ (.succ (.succ (.zero _))))) rfl ?_; refine TL.run1 (pure_buildSlice (xs := [.const (.int .i64 5)]) Ty.app35 (by decide) rfl rfl (.cons rfl (.one rfl) rfl .nil)) rfl ?_; refine TL.run1 (pure_call (is_spec _ _ _ [5] (by decide)) (.cons rfl (.cons rfl .nil)) Tryd.call66) rfl ?_; refine TL.run1 (pure_assign rfl) rfl ?_; refine TL.nil' ?_; refine TC.condD rfl (fun hc10 => ?_) (fun hc10 => ?_)
    · try dsimp only at hc10
      have hx10 := List.mem_singleton.1 hc10
      refine TC.region ?_; refine TL.run1 (pure_assign rfl) rfl ?_; refine TL.nil ?_; refine block_normal ?_; refine then_normal ?_; refine TC.region ?_; refine TL.run1 (pure_move rfl) rfl ?_; refine TL.run1 (pure_add rfl rfl (mkI64 (by omega) (by omega))) rfl ?_; refine TL.run1 (pure_assign rfl) rfl ?_; refine TL.nil ?_; refine block_normal ?_
      have hin : InsP c (i + n) := .inl hx10
      have hwk : wkTo c i (n + 1) = 1 := by rw [wkTo, if_pos hx10]
      refine loop_next (n + 1) ⟨by ((try dsimp only); rw [hwk, show (((n + 1 : Nat)) : Int) = (n : Int) + 1 by omega]; repeat (first | exact Agree.nil | refine Agree.cons rfl ?_)), by repeat (first | exact List.nil_sublist _ | exact List.Sublist.refl _ | apply List.Sublist.cons_cons | apply List.Sublist.cons)⟩ ⟨by omega, fun j h => by rcases Nat.lt_or_eq_of_le (Nat.le_of_lt_succ h) with h | h; exact h2 j h; rw [h]; exact hin⟩ (by omega)
    · try dsimp only at hc10
      have hx10 := fun e => hc10 (List.mem_singleton.2 e)
      refine TC.seq ?_; refine TC.region ?_; (iterate 2 refine TL.run1 (pure_move rfl) rfl ?_); refine TL.run1 (pure_indexAddr Ty.sl62 rfl rfl (by omega) hrow (List.cons_ne_nil _ _)) rfl ?_; refine TL.run1 (pure_load Ty.agg77 rfl (.succ (.succ (.succ (.zero _))))) rfl ?_; refine TL.run1 (pure_buildSlice (xs := [.const (.int .i64 6)]) Ty.app35 (by decide) rfl rfl (.cons rfl (.one rfl) rfl .nil)) rfl ?_; refine TL.run1 (pure_call (is_spec _ _ _ [6] (by decide)) (.cons rfl (.cons rfl .nil)) Tryd.call66) rfl ?_; refine TL.run1 (pure_assign rfl) rfl ?_; refine TL.nil' ?_; refine TC.condD rfl (fun hc17 => ?_) (fun hc17 => ?_)
      · try dsimp only at hc17
        have hx17 := List.mem_singleton.1 hc17
        refine TC.skip ?_; refine block_normal ?_; refine then_normal ?_; refine TC.region ?_; refine TL.run1 (pure_move rfl) rfl ?_; refine TL.run1 (pure_add rfl rfl (mkI64 (by omega) (by omega))) rfl ?_; refine TL.run1 (pure_assign rfl) rfl ?_; refine TL.nil ?_; refine block_normal ?_
        have hin : InsP c (i + n) := .inr (.inl hx17)
        have hwk : wkTo c i (n + 1) = wkTo c i n := by rw [wkTo, if_neg hx10]
        refine loop_next (n + 1) ⟨by ((try dsimp only); rw [hwk, show (((n + 1 : Nat)) : Int) = (n : Int) + 1 by omega]; repeat (first | exact Agree.nil | refine Agree.cons rfl ?_)), by repeat (first | exact List.nil_sublist _ | exact List.Sublist.refl _ | apply List.Sublist.cons_cons | apply List.Sublist.cons)⟩ ⟨by omega, fun j h => by rcases Nat.lt_or_eq_of_le (Nat.le_of_lt_succ h) with h | h; exact h2 j h; rw [h]; exact hin⟩ (by omega)
      · try dsimp only at hc17
        have hx17 := fun e => hc17 (List.mem_singleton.2 e)
        refine TC.regionCut [25, 26, 27, 28, 29, 30, 31, 32, 33, 34, 35, 36, 37, 38, 39, 40, 41, 42, 43, 44, 45, 46, 47, 48, 49, 50, 51, 52, 53, 54, 55, 56, 57, 58, 59, 24] 24 (0 < n ∧ i + n + 1 < c.length ∧ iAt c ((i + n : Nat) : Int) = 11 ∧ iAt c ((i + (n - 1) : Nat) : Int) = 5 ∧ iAt c ((i + (n + 1) : Nat) : Int) = 5) ?_ ?_
        · skip
          refine TL.run1 (pure_move rfl) rfl ?_; refine TL.run1 (pure_gtr rfl rfl) rfl ?_; refine TL.run1 (pure_move rfl) rfl ?_; refine TL.splitP 27 rfl (fun hg27 => ?_) (fun hg27 => ?_)
          · try dsimp only at hg27
            refine TL.runG rfl rfl (pure_move rfl) rfl ?_; refine TL.runG rfl rfl (pure_add rfl rfl (mkI64 (by omega) (by omega))) rfl ?_; refine TL.runG rfl rfl (pure_move rfl) rfl ?_; refine TL.runG rfl rfl (pure_len Ty.sl62 rfl) rfl ?_; refine TL.runG rfl rfl (pure_lss rfl rfl) rfl ?_; refine TL.run1 (pure_pick_true rfl rfl) rfl ?_; refine TL.run1 (pure_move rfl) rfl ?_; refine TL.splitP 34 rfl (fun hg34 => ?_) (fun hg34 => ?_)
            · try dsimp only at hg34
              have hn0 : 0 < n ∧ i + n + 1 < c.length := by (first | omega | (have h := hg34; simp only [decide_eq_true_eq] at h; omega))
              have hrowm : ((encK c b).drop i)[((n : Nat) : Int).toNat - 1]? = some [.v (.int .i64 (iAt c ((i + (n - 1) : Nat) : Int))), .v (.int .i64 (iAt b ((i + (n - 1) : Nat) : Int))), .v (.int .i64 (iAt b ((i + (n - 1) + 1 : Nat) : Int)))] := encKd_get c b i (n - 1) (by omega)
              have hrowm2 : ((encK c b).drop i)[(((n : Nat) : Int) - 1).toNat]? = some [.v (.int .i64 (iAt c ((i + (n - 1) : Nat) : Int))), .v (.int .i64 (iAt b ((i + (n - 1) : Nat) : Int))), .v (.int .i64 (iAt b ((i + (n - 1) + 1 : Nat) : Int)))] := by (rw [show (((n : Nat) : Int) - 1).toNat = n - 1 by omega]; exact encKd_get c b i (n - 1) (by omega))
              have hrowp : ((encK c b).drop i)[(((n : Nat) : Int) + 1).toNat]? = some [.v (.int .i64 (iAt c ((i + (n + 1) : Nat) : Int))), .v (.int .i64 (iAt b ((i + (n + 1) : Nat) : Int))), .v (.int .i64 (iAt b ((i + (n + 1) + 1 : Nat) : Int)))] := by (rw [show (((n : Nat) : Int) + 1).toNat = n + 1 by omega]; exact encKd_get c b i (n + 1) (by omega))
              (iterate 2 refine TL.runG rfl rfl (pure_move rfl) rfl ?_); refine TL.runG rfl rfl (pure_indexAddr Ty.sl62 rfl rfl (by omega) hrow (List.cons_ne_nil _ _)) rfl ?_; refine TL.runG rfl rfl (pure_load Ty.agg77 rfl (.succ (.succ (.succ (.zero _))))) rfl ?_; refine TL.runG rfl rfl (pure_buildSlice (xs := [.const (.int .i64 11)]) Ty.app35 (by decide) rfl rfl (.cons rfl (.one rfl) rfl .nil)) rfl ?_; refine TL.runG rfl rfl (pure_call (is_spec _ _ _ [11] (by decide)) (.cons rfl (.cons rfl .nil)) Tryd.call66) rfl ?_; refine TL.run1 (pure_pick_true rfl rfl) rfl ?_; refine TL.run1 (pure_move rfl) rfl ?_; refine TL.splitP 42 rfl (fun hg42 => ?_) (fun hg42 => ?_)
              · try dsimp only at hg42
                (iterate 2 refine TL.runG rfl rfl (pure_move rfl) rfl ?_); refine TL.runG rfl rfl (pure_sub rfl rfl (mkI64 (by omega) (by omega))) rfl ?_; refine TL.runG rfl rfl (pure_indexAddr Ty.sl62 rfl rfl (by omega) hrowm2 (List.cons_ne_nil _ _)) rfl ?_; refine TL.runG rfl rfl (pure_load Ty.agg77 rfl (.succ (.succ (.succ (.zero _))))) rfl ?_; refine TL.runG rfl rfl (pure_buildSlice (xs := [.const (.int .i64 5)]) Ty.app35 (by decide) rfl rfl (.cons rfl (.one rfl) rfl .nil)) rfl ?_; refine TL.runG rfl rfl (pure_call (is_spec _ _ _ [5] (by decide)) (.cons rfl (.cons rfl .nil)) Tryd.call66) rfl ?_; refine TL.run1 (pure_pick_true rfl rfl) rfl ?_; refine TL.run1 (pure_move rfl) rfl ?_; refine TL.splitP 51 rfl (fun hg51 => ?_) (fun hg51 => ?_)
                · try dsimp only at hg51
                  (iterate 2 refine TL.runG rfl rfl (pure_move rfl) rfl ?_); refine TL.runG rfl rfl (pure_add rfl rfl (mkI64 (by omega) (by omega))) rfl ?_; refine TL.runG rfl rfl (pure_indexAddr Ty.sl62 rfl rfl (by omega) hrowp (List.cons_ne_nil _ _)) rfl ?_; refine TL.runG rfl rfl (pure_load Ty.agg77 rfl (.succ (.succ (.succ (.zero _))))) rfl ?_; refine TL.runG rfl rfl (pure_buildSlice (xs := [.const (.int .i64 5)]) Ty.app35 (by decide) rfl rfl (.cons rfl (.one rfl) rfl .nil)) rfl ?_; refine TL.runG rfl rfl (pure_call (is_spec _ _ _ [5] (by decide)) (.cons rfl (.cons rfl .nil)) Tryd.call66) rfl ?_; refine TL.run1 (pure_pick_true rfl rfl) rfl ?_; refine TL.run1 (pure_assign rfl) rfl ?_; refine TL.cutEnd (by repeat (first | exact Same.refl _ _ | refine Same.put rfl ?_)) rfl ?_
                  first | (simp only [List.mem_cons, List.mem_nil_iff, or_false, List.mem_singleton, decide_eq_true_eq, Bool.false_eq_true, false_iff, true_iff, iff_true, iff_false, Bool.not_eq_true] at *; omega) | (simp_all; done) | (simp_all; omega) | grind
                · try dsimp only at hg51
                  (iterate 7 refine TL.passG rfl rfl rfl rfl ?_); refine TL.run1 (pure_pick_false rfl rfl) rfl ?_; refine TL.run1 (pure_assign rfl) rfl ?_; refine TL.cutEnd (by repeat (first | exact Same.refl _ _ | refine Same.put rfl ?_)) rfl ?_
                  first | (simp only [List.mem_cons, List.mem_nil_iff, or_false, List.mem_singleton, decide_eq_true_eq, Bool.false_eq_true, false_iff, true_iff, iff_true, iff_false, Bool.not_eq_true] at *; omega) | (simp_all; done) | (simp_all; omega) | grind
              · try dsimp only at hg42
                (iterate 7 refine TL.passG rfl rfl rfl rfl ?_); refine TL.run1 (pure_pick_false rfl rfl) rfl ?_; refine TL.run1 (pure_move rfl) rfl ?_; (iterate 7 refine TL.passG rfl rfl rfl rfl ?_); refine TL.run1 (pure_pick_false rfl rfl) rfl ?_; refine TL.run1 (pure_assign rfl) rfl ?_; refine TL.cutEnd (by repeat (first | exact Same.refl _ _ | refine Same.put rfl ?_)) rfl ?_
                first | (simp only [List.mem_cons, List.mem_nil_iff, or_false, List.mem_singleton, decide_eq_true_eq, Bool.false_eq_true, false_iff, true_iff, iff_true, iff_false, Bool.not_eq_true] at *; omega) | (simp_all; done) | (simp_all; omega) | grind
            · try dsimp only at hg34
              (iterate 6 refine TL.passG rfl rfl rfl rfl ?_); refine TL.run1 (pure_pick_false rfl rfl) rfl ?_; refine TL.run1 (pure_move rfl) rfl ?_; (iterate 7 refine TL.passG rfl rfl rfl rfl ?_); refine TL.run1 (pure_pick_false rfl rfl) rfl ?_; refine TL.run1 (pure_move rfl) rfl ?_; (iterate 7 refine TL.passG rfl rfl rfl rfl ?_); refine TL.run1 (pure_pick_false rfl rfl) rfl ?_; refine TL.run1 (pure_assign rfl) rfl ?_; refine TL.cutEnd (by repeat (first | exact Same.refl _ _ | refine Same.put rfl ?_)) rfl ?_
              first | (simp only [List.mem_cons, List.mem_nil_iff, or_false, List.mem_singleton, decide_eq_true_eq, Bool.false_eq_true, false_iff, true_iff, iff_true, iff_false, Bool.not_eq_true] at *; omega) | (simp_all; done) | (simp_all; omega) | grind
          · try dsimp only at hg27
            (iterate 5 refine TL.passG rfl rfl rfl rfl ?_); refine TL.run1 (pure_pick_false rfl rfl) rfl ?_; refine TL.run1 (pure_move rfl) rfl ?_; (iterate 6 refine TL.passG rfl rfl rfl rfl ?_); refine TL.run1 (pure_pick_false rfl rfl) rfl ?_; refine TL.run1 (pure_move rfl) rfl ?_; (iterate 7 refine TL.passG rfl rfl rfl rfl ?_); refine TL.run1 (pure_pick_false rfl rfl) rfl ?_; refine TL.run1 (pure_move rfl) rfl ?_; (iterate 7 refine TL.passG rfl rfl rfl rfl ?_); refine TL.run1 (pure_pick_false rfl rfl) rfl ?_; refine TL.run1 (pure_assign rfl) rfl ?_; refine TL.cutEnd (by repeat (first | exact Same.refl _ _ | refine Same.put rfl ?_)) rfl ?_
            first | (simp only [List.mem_cons, List.mem_nil_iff, or_false, List.mem_singleton, decide_eq_true_eq, Bool.false_eq_true, false_iff, true_iff, iff_true, iff_false, Bool.not_eq_true] at *; omega) | (simp_all; done) | (simp_all; omega) | grind
        refine TC.condD rfl (fun hc24 => ?_) (fun hc24 => ?_)
        · try dsimp only at hc24
          refine TC.skip ?_; refine block_normal ?_; refine then_normal ?_; refine TC.region ?_; refine TL.run1 (pure_move rfl) rfl ?_; refine TL.run1 (pure_add rfl rfl (mkI64 (by omega) (by omega))) rfl ?_; refine TL.run1 (pure_assign rfl) rfl ?_; refine TL.nil ?_; refine block_normal ?_
          have hin : InsP c (i + n) := .inr (.inr (.inl ((ins_mid c i n 11 5 hc24.1 (by decide)).2 hc24)))
          have hwk : wkTo c i (n + 1) = wkTo c i n := by rw [wkTo, if_neg hx10]
          refine loop_next (n + 1) ⟨by ((try dsimp only); rw [hwk, show (((n + 1 : Nat)) : Int) = (n : Int) + 1 by omega]; repeat (first | exact Agree.nil | refine Agree.cons rfl ?_)), by repeat (first | exact List.nil_sublist _ | exact List.Sublist.refl _ | apply List.Sublist.cons_cons | apply List.Sublist.cons)⟩ ⟨by omega, fun j h => by rcases Nat.lt_or_eq_of_le (Nat.le_of_lt_succ h) with h | h; exact h2 j h; rw [h]; exact hin⟩ (by omega)
        · try dsimp only at hc24
          refine TC.regionCut [61, 62, 63, 64, 65, 66, 67, 68, 69, 70, 71, 72, 73, 74, 75, 76, 77, 78, 79, 80, 81, 82, 83, 84, 85, 86, 87, 88, 89, 90, 91, 92, 93, 94, 95, 60] 60 (0 < n ∧ i + n + 1 < c.length ∧ iAt c ((i + n : Nat) : Int) = 10 ∧ iAt c ((i + (n - 1) : Nat) : Int) = 6 ∧ iAt c ((i + (n + 1) : Nat) : Int) = 6) ?_ ?_
          · skip
            refine TL.run1 (pure_move rfl) rfl ?_; refine TL.run1 (pure_gtr rfl rfl) rfl ?_; refine TL.run1 (pure_move rfl) rfl ?_; refine TL.splitP 63 rfl (fun hg63 => ?_) (fun hg63 => ?_)
            · try dsimp only at hg63
              refine TL.runG rfl rfl (pure_move rfl) rfl ?_; refine TL.runG rfl rfl (pure_add rfl rfl (mkI64 (by omega) (by omega))) rfl ?_; refine TL.runG rfl rfl (pure_move rfl) rfl ?_; refine TL.runG rfl rfl (pure_len Ty.sl62 rfl) rfl ?_; refine TL.runG rfl rfl (pure_lss rfl rfl) rfl ?_; refine TL.run1 (pure_pick_true rfl rfl) rfl ?_; refine TL.run1 (pure_move rfl) rfl ?_; refine TL.splitP 70 rfl (fun hg70 => ?_) (fun hg70 => ?_)
              · try dsimp only at hg70
                have hn0 : 0 < n ∧ i + n + 1 < c.length := by (first | omega | (have h := hg70; simp only [decide_eq_true_eq] at h; omega))
                have hrowm : ((encK c b).drop i)[((n : Nat) : Int).toNat - 1]? = some [.v (.int .i64 (iAt c ((i + (n - 1) : Nat) : Int))), .v (.int .i64 (iAt b ((i + (n - 1) : Nat) : Int))), .v (.int .i64 (iAt b ((i + (n - 1) + 1 : Nat) : Int)))] := encKd_get c b i (n - 1) (by omega)
                have hrowm2 : ((encK c b).drop i)[(((n : Nat) : Int) - 1).toNat]? = some [.v (.int .i64 (iAt c ((i + (n - 1) : Nat) : Int))), .v (.int .i64 (iAt b ((i + (n - 1) : Nat) : Int))), .v (.int .i64 (iAt b ((i + (n - 1) + 1 : Nat) : Int)))] := by (rw [show (((n : Nat) : Int) - 1).toNat = n - 1 by omega]; exact encKd_get c b i (n - 1) (by omega))
                have hrowp : ((encK c b).drop i)[(((n : Nat) : Int) + 1).toNat]? = some [.v (.int .i64 (iAt c ((i + (n + 1) : Nat) : Int))), .v (.int .i64 (iAt b ((i + (n + 1) : Nat) : Int))), .v (.int .i64 (iAt b ((i + (n + 1) + 1 : Nat) : Int)))] := by (rw [show (((n : Nat) : Int) + 1).toNat = n + 1 by omega]; exact encKd_get c b i (n + 1) (by omega))
                (iterate 2 refine TL.runG rfl rfl (pure_move rfl) rfl ?_); refine TL.runG rfl rfl (pure_indexAddr Ty.sl62 rfl rfl (by omega) hrow (List.cons_ne_nil _ _)) rfl ?_; refine TL.runG rfl rfl (pure_load Ty.agg77 rfl (.succ (.succ (.succ (.zero _))))) rfl ?_; refine TL.runG rfl rfl (pure_buildSlice (xs := [.const (.int .i64 10)]) Ty.app35 (by decide) rfl rfl (.cons rfl (.one rfl) rfl .nil)) rfl ?_; refine TL.runG rfl rfl (pure_call (is_spec _ _ _ [10] (by decide)) (.cons rfl (.cons rfl .nil)) Tryd.call66) rfl ?_; refine TL.run1 (pure_pick_true rfl rfl) rfl ?_; refine TL.run1 (pure_move rfl) rfl ?_; refine TL.splitP 78 rfl (fun hg78 => ?_) (fun hg78 => ?_)
                · try dsimp only at hg78
                  (iterate 2 refine TL.runG rfl rfl (pure_move rfl) rfl ?_); refine TL.runG rfl rfl (pure_sub rfl rfl (mkI64 (by omega) (by omega))) rfl ?_; refine TL.runG rfl rfl (pure_indexAddr Ty.sl62 rfl rfl (by omega) hrowm2 (List.cons_ne_nil _ _)) rfl ?_; refine TL.runG rfl rfl (pure_load Ty.agg77 rfl (.succ (.succ (.succ (.zero _))))) rfl ?_; refine TL.runG rfl rfl (pure_buildSlice (xs := [.const (.int .i64 6)]) Ty.app35 (by decide) rfl rfl (.cons rfl (.one rfl) rfl .nil)) rfl ?_; refine TL.runG rfl rfl (pure_call (is_spec _ _ _ [6] (by decide)) (.cons rfl (.cons rfl .nil)) Tryd.call66) rfl ?_; refine TL.run1 (pure_pick_true rfl rfl) rfl ?_; refine TL.run1 (pure_move rfl) rfl ?_; refine TL.splitP 87 rfl (fun hg87 => ?_) (fun hg87 => ?_)
                  · try dsimp only at hg87
                    (iterate 2 refine TL.runG rfl rfl (pure_move rfl) rfl ?_); refine TL.runG rfl rfl (pure_add rfl rfl (mkI64 (by omega) (by omega))) rfl ?_; refine TL.runG rfl rfl (pure_indexAddr Ty.sl62 rfl rfl (by omega) hrowp (List.cons_ne_nil _ _)) rfl ?_; refine TL.runG rfl rfl (pure_load Ty.agg77 rfl (.succ (.succ (.succ (.zero _))))) rfl ?_; refine TL.runG rfl rfl (pure_buildSlice (xs := [.const (.int .i64 6)]) Ty.app35 (by decide) rfl rfl (.cons rfl (.one rfl) rfl .nil)) rfl ?_; refine TL.runG rfl rfl (pure_call (is_spec _ _ _ [6] (by decide)) (.cons rfl (.cons rfl .nil)) Tryd.call66) rfl ?_; refine TL.run1 (pure_pick_true rfl rfl) rfl ?_; refine TL.run1 (pure_assign rfl) rfl ?_; refine TL.cutEnd (by repeat (first | exact Same.refl _ _ | refine Same.put rfl ?_)) rfl ?_
                    first | (simp only [List.mem_cons, List.mem_nil_iff, or_false, List.mem_singleton, decide_eq_true_eq, Bool.false_eq_true, false_iff, true_iff, iff_true, iff_false, Bool.not_eq_true] at *; omega) | (simp_all; done) | (simp_all; omega) | grind
                  · try dsimp only at hg87
                    (iterate 7 refine TL.passG rfl rfl rfl rfl ?_); refine TL.run1 (pure_pick_false rfl rfl) rfl ?_; refine TL.run1 (pure_assign rfl) rfl ?_; refine TL.cutEnd (by repeat (first | exact Same.refl _ _ | refine Same.put rfl ?_)) rfl ?_
                    first | (simp only [List.mem_cons, List.mem_nil_iff, or_false, List.mem_singleton, decide_eq_true_eq, Bool.false_eq_true, false_iff, true_iff, iff_true, iff_false, Bool.not_eq_true] at *; omega) | (simp_all; done) | (simp_all; omega) | grind
                · try dsimp only at hg78
                  (iterate 7 refine TL.passG rfl rfl rfl rfl ?_); refine TL.run1 (pure_pick_false rfl rfl) rfl ?_; refine TL.run1 (pure_move rfl) rfl ?_; (iterate 7 refine TL.passG rfl rfl rfl rfl ?_); refine TL.run1 (pure_pick_false rfl rfl) rfl ?_; refine TL.run1 (pure_assign rfl) rfl ?_; refine TL.cutEnd (by repeat (first | exact Same.refl _ _ | refine Same.put rfl ?_)) rfl ?_
                  first | (simp only [List.mem_cons, List.mem_nil_iff, or_false, List.mem_singleton, decide_eq_true_eq, Bool.false_eq_true, false_iff, true_iff, iff_true, iff_false, Bool.not_eq_true] at *; omega) | (simp_all; done) | (simp_all; omega) | grind
              · try dsimp only at hg70
                (iterate 6 refine TL.passG rfl rfl rfl rfl ?_); refine TL.run1 (pure_pick_false rfl rfl) rfl ?_; refine TL.run1 (pure_move rfl) rfl ?_; (iterate 7 refine TL.passG rfl rfl rfl rfl ?_); refine TL.run1 (pure_pick_false rfl rfl) rfl ?_; refine TL.run1 (pure_move rfl) rfl ?_; (iterate 7 refine TL.passG rfl rfl rfl rfl ?_); refine TL.run1 (pure_pick_false rfl rfl) rfl ?_; refine TL.run1 (pure_assign rfl) rfl ?_; refine TL.cutEnd (by repeat (first | exact Same.refl _ _ | refine Same.put rfl ?_)) rfl ?_
                first | (simp only [List.mem_cons, List.mem_nil_iff, or_false, List.mem_singleton, decide_eq_true_eq, Bool.false_eq_true, false_iff, true_iff, iff_true, iff_false, Bool.not_eq_true] at *; omega) | (simp_all; done) | (simp_all; omega) | grind
            · try dsimp only at hg63
              (iterate 5 refine TL.passG rfl rfl rfl rfl ?_); refine TL.run1 (pure_pick_false rfl rfl) rfl ?_; refine TL.run1 (pure_move rfl) rfl ?_; (iterate 6 refine TL.passG rfl rfl rfl rfl ?_); refine TL.run1 (pure_pick_false rfl rfl) rfl ?_; refine TL.run1 (pure_move rfl) rfl ?_; (iterate 7 refine TL.passG rfl rfl rfl rfl ?_); refine TL.run1 (pure_pick_false rfl rfl) rfl ?_; refine TL.run1 (pure_move rfl) rfl ?_; (iterate 7 refine TL.passG rfl rfl rfl rfl ?_); refine TL.run1 (pure_pick_false rfl rfl) rfl ?_; refine TL.run1 (pure_assign rfl) rfl ?_; refine TL.cutEnd (by repeat (first | exact Same.refl _ _ | refine Same.put rfl ?_)) rfl ?_
              first | (simp only [List.mem_cons, List.mem_nil_iff, or_false, List.mem_singleton, decide_eq_true_eq, Bool.false_eq_true, false_iff, true_iff, iff_true, iff_false, Bool.not_eq_true] at *; omega) | (simp_all; done) | (simp_all; omega) | grind
          refine TC.condD rfl (fun hc60 => ?_) (fun hc60 => ?_)
          · try dsimp only at hc60
            refine TC.skip ?_; refine block_normal ?_; refine then_normal ?_; refine TC.region ?_; refine TL.run1 (pure_move rfl) rfl ?_; refine TL.run1 (pure_add rfl rfl (mkI64 (by omega) (by omega))) rfl ?_; refine TL.run1 (pure_assign rfl) rfl ?_; refine TL.nil ?_; refine block_normal ?_
            have hin : InsP c (i + n) := .inr (.inr (.inr ((ins_mid c i n 10 6 hc60.1 (by decide)).2 hc60)))
            have hwk : wkTo c i (n + 1) = wkTo c i n := by rw [wkTo, if_neg hx10]
            refine loop_next (n + 1) ⟨by ((try dsimp only); rw [hwk, show (((n + 1 : Nat)) : Int) = (n : Int) + 1 by omega]; repeat (first | exact Agree.nil | refine Agree.cons rfl ?_)), by repeat (first | exact List.nil_sublist _ | exact List.Sublist.refl _ | apply List.Sublist.cons_cons | apply List.Sublist.cons)⟩ ⟨by omega, fun j h => by rcases Nat.lt_or_eq_of_le (Nat.le_of_lt_succ h) with h | h; exact h2 j h; rw [h]; exact hin⟩ (by omega)
          · try dsimp only at hc60
            have hni : ¬ InsP c (i + n) := by (unfold InsP; rintro (h | h | h | h); exact hx10 h; exact hx17 h; (rcases Nat.eq_zero_or_pos n with h0 | h0; (subst h0; rcases hw with h | h; exact hx10 h; exact hx17 h); exact hc24 ((ins_mid c i n 11 5 h0 (by decide)).1 h)); (rcases Nat.eq_zero_or_pos n with h0 | h0; (subst h0; rcases hw with h | h; exact hx10 h; exact hx17 h); exact hc60 ((ins_mid c i n 10 6 h0 (by decide)).1 h)))
            refine TC.seq ?_; refine TC.region ?_; (iterate 2 refine TL.run1 (pure_move rfl) rfl ?_); (iterate 2 refine TL.run1 (pure_assign rfl) rfl ?_); refine TL.nil' ?_; refine TC.ret ?_; refine block_ret ?_; refine then_ret ?_; refine block_ret ?_; refine loop_ret ?_; refine block_ret ?_; refine then_ret ?_
            have hn0 : 0 < n := by (rcases Nat.eq_zero_or_pos n with h | h; subst h; exact absurd hw (by unfold WrdP; rintro (h | h); exact hx10 h; exact hx17 h); exact h)
            have he : endT c i = i + n := endW_eq hw (by omega) (by omega) (fun j a d => by (have h := h2 (j - i) (by omega); rwa [show i + (j - i) = j by omega] at h)) (.inr hni)
            exact ret2 (.inl rfl) rfl rfl (by unfold kindT; rw [if_pos hw, he, Nat.add_sub_cancel_left])
  · try dsimp only at hc7
    refine TC.exit ?_; refine then_exit ?_; refine loop_exit ?_; refine block_here ?_; refine then_normal ?_; refine TC.seq ?_; refine TC.region ?_; (iterate 2 refine TL.run1 (pure_move rfl) rfl ?_); (iterate 2 refine TL.run1 (pure_assign rfl) rfl ?_); refine TL.nil' ?_; refine TC.ret ?_
    have hn0 : 0 < n := by omega
    have he : endT c i = i + n := endW_eq hw (by omega) (by omega) (fun j a d => by (have h := h2 (j - i) (by omega); rwa [show i + (j - i) = j by omega] at h)) (.inl (by omega))
    exact ret2 (.inl rfl) rfl rfl (by unfold kindT; rw [if_pos hw, he, Nat.add_sub_cancel_left])
set_option maxRecDepth 100000 in
theorem next_spec (c b : List Int) (i : Nat) (hi : i < c.length) (hc : c.length ≤ 1000000000) : Fun Tryd.prog 57 [.sl 3 ((encK c b).drop i)] (.tup [.v (.int .i64 ((endT c i - i : Nat) : Int)), .v (.int .i64 (kindT c i))]) := by
  refine Fun.enter (n := 47) (rs := [.tmp 2, .tmp 3]) Tryd.func57 rfl Tryd.ntmps57 Tryd.results57 rfl (fun w F => ?_)
  have hkl := encKd_len c b i
  have hrow : ((encK c b).drop i)[(0 : Int).toNat]? = some [.v (.int .i64 (iAt c ((i : Nat) : Int))), .v (.int .i64 (iAt b ((i : Nat) : Int))), .v (.int .i64 (iAt b ((i + 1 : Nat) : Int)))] := encKd_get c b i 0 (by omega)
  refine TC.seq ?_; refine TC.region ?_; (iterate 2 refine TL.run1 (pure_assign rfl) rfl ?_); refine TL.nil' ?_; refine TC.seq ?_; refine TC.block ?_; refine TC.seq ?_; refine TC.region ?_; refine TL.run1 (pure_move rfl) rfl ?_; refine TL.run1 (pure_indexAddr Ty.sl62 rfl rfl (by omega) hrow (List.cons_ne_nil _ _)) rfl ?_; refine TL.run1 (pure_load Ty.agg77 rfl (.succ (.succ (.succ (.zero _))))) rfl ?_; refine TL.run1 (pure_buildSlice (xs := [.const (.int .i64 5), .const (.int .i64 6)]) Ty.app35 (by decide) rfl rfl (.cons rfl (.one rfl) rfl (.cons rfl (.one rfl) rfl .nil))) rfl ?_; refine TL.run1 (pure_call (is_spec _ _ _ [5, 6] (by decide)) (.cons rfl (.cons rfl .nil)) Tryd.call66) rfl ?_; refine TL.run1 (pure_assign rfl) rfl ?_; refine TL.nil' ?_; refine TC.condD rfl (fun hc4 => ?_) (fun hc4 => ?_)
  · try dsimp only at hc4
    have hw : WrdP c i := mem_pr.1 hc4
    refine TC.seq ?_; refine TC.region ?_; refine TL.run1 (pure_move rfl) rfl ?_; refine TL.run1 (pure_call (word_spec c b i hi hw hc) (.cons rfl .nil) Tryd.call81) rfl ?_; (iterate 2 refine TL.run1 (pure_extract rfl rfl) rfl ?_); (iterate 2 refine TL.run1 (pure_assign rfl) rfl ?_); refine TL.nil' ?_; refine TC.ret ?_; refine block_ret ?_; refine then_ret ?_
    exact ret2 (.inl rfl) rfl rfl rfl
  · try dsimp only at hc4
    have hw : ¬ WrdP c i := fun e => hc4 (mem_pr.2 e)
    refine TC.seq ?_; refine TC.region ?_; refine TL.run1 (pure_move rfl) rfl ?_; refine TL.run1 (pure_indexAddr Ty.sl62 rfl rfl (by omega) hrow (List.cons_ne_nil _ _)) rfl ?_; refine TL.run1 (pure_load Ty.agg77 rfl (.succ (.succ (.succ (.zero _))))) rfl ?_; refine TL.run1 (pure_buildSlice (xs := [.const (.int .i64 2), .const (.int .i64 3)]) Ty.app35 (by decide) rfl rfl (.cons rfl (.one rfl) rfl (.cons rfl (.one rfl) rfl .nil))) rfl ?_; refine TL.run1 (pure_call (is_spec _ _ _ [2, 3] (by decide)) (.cons rfl (.cons rfl .nil)) Tryd.call66) rfl ?_; refine TL.run1 (pure_assign rfl) rfl ?_; refine TL.nil' ?_; refine TC.condD rfl (fun hc14 => ?_) (fun hc14 => ?_)
    · try dsimp only at hc14
      have hb : BlkP c i := mem_pr.1 hc14
      refine TC.seq ?_; refine TC.block ?_; refine TC.loopX (X := Nat) (fun n => [(0, .sl 3 ((encK c b).drop i)), (2, .v (.int .i64 n))]) (fun n => []) (fun n => (n ≤ c.length - i) ∧ (∀ j, j < n → BlkP c (i + j))) (fun n => c.length - i - n) (0) ⟨by skip; repeat (first | exact Agree.nil | refine Agree.cons rfl ?_), by skip; repeat (first | exact List.nil_sublist _ | exact List.Sublist.refl _ | apply List.Sublist.cons_cons | apply List.Sublist.cons)⟩ ?_ ?_
      · skip
        exact ⟨Nat.zero_le _, fun j h => by omega⟩
      intro n
      rintro ⟨h1, h2⟩
      show TC _ _ _ (Env.of [(0, .sl 3 ((encK c b).drop i)), (2, .v (.int .i64 n))]) []
      refine TC.seq ?_; refine TC.regionCut [20, 21, 22, 23, 24, 25, 26, 27, 28, 29, 30, 31] 31 (i + n < c.length ∧ (iAt c ((i + n : Nat) : Int) = 2 ∨ iAt c ((i + n : Nat) : Int) = 3)) ?_ ?_
      · skip
        (iterate 2 refine TL.run1 (pure_move rfl) rfl ?_); refine TL.run1 (pure_len Ty.sl62 rfl) rfl ?_; refine TL.run1 (pure_lss rfl rfl) rfl ?_; refine TL.run1 (pure_move rfl) rfl ?_; refine TL.splitP 24 rfl (fun hg24 => ?_) (fun hg24 => ?_)
        · try dsimp only at hg24
          have hn1 : i + n < c.length := by (first | omega | (have h := hg24; simp only [decide_eq_true_eq] at h; omega))
          have hrow2 : ((encK c b).drop i)[((n : Nat) : Int).toNat]? = some [.v (.int .i64 (iAt c ((i + n : Nat) : Int))), .v (.int .i64 (iAt b ((i + n : Nat) : Int))), .v (.int .i64 (iAt b ((i + n + 1 : Nat) : Int)))] := encKd_get c b i n (by omega)
          (iterate 2 refine TL.runG rfl rfl (pure_move rfl) rfl ?_); refine TL.runG rfl rfl (pure_indexAddr Ty.sl62 rfl rfl (by omega) hrow2 (List.cons_ne_nil _ _)) rfl ?_; refine TL.runG rfl rfl (pure_load Ty.agg77 rfl (.succ (.succ (.succ (.zero _))))) rfl ?_; refine TL.runG rfl rfl (pure_buildSlice (xs := [.const (.int .i64 2), .const (.int .i64 3)]) Ty.app35 (by decide) rfl rfl (.cons rfl (.one rfl) rfl (.cons rfl (.one rfl) rfl .nil))) rfl ?_; refine TL.runG rfl rfl (pure_call (is_spec _ _ _ [2, 3] (by decide)) (.cons rfl (.cons rfl .nil)) Tryd.call66) rfl ?_; refine TL.run1 (pure_pick_true rfl rfl) rfl ?_; refine TL.cutEnd (by repeat (first | exact Same.refl _ _ | refine Same.put rfl ?_)) rfl ?_
          first | (simp only [List.mem_cons, List.mem_nil_iff, or_false, List.mem_singleton, decide_eq_true_eq, Bool.false_eq_true, false_iff, true_iff, iff_true, iff_false, Bool.not_eq_true] at *; omega) | (simp_all; done) | (simp_all; omega) | grind
        · try dsimp only at hg24
          (iterate 6 refine TL.passG rfl rfl rfl rfl ?_); refine TL.run1 (pure_pick_false rfl rfl) rfl ?_; refine TL.cutEnd (by repeat (first | exact Same.refl _ _ | refine Same.put rfl ?_)) rfl ?_
          first | (simp only [List.mem_cons, List.mem_nil_iff, or_false, List.mem_singleton, decide_eq_true_eq, Bool.false_eq_true, false_iff, true_iff, iff_true, iff_false, Bool.not_eq_true] at *; omega) | (simp_all; done) | (simp_all; omega) | grind
      refine TC.condD rfl (fun hc31 => ?_) (fun hc31 => ?_)
      · try dsimp only at hc31
        refine TC.skip' ?_; refine TC.block ?_; refine TC.region ?_; refine TL.run1 (pure_move rfl) rfl ?_; refine TL.run1 (pure_add rfl rfl (mkI64 (by omega) (by omega))) rfl ?_; refine TL.run1 (pure_assign rfl) rfl ?_; refine TL.nil ?_; refine block_normal ?_; refine loop_next (n + 1) ⟨by ((try dsimp only); rw [show (((n + 1 : Nat)) : Int) = (n : Int) + 1 by omega]; repeat (first | exact Agree.nil | refine Agree.cons rfl ?_)), by repeat (first | exact List.nil_sublist _ | exact List.Sublist.refl _ | apply List.Sublist.cons_cons | apply List.Sublist.cons)⟩ ⟨by omega, fun j h => by rcases Nat.lt_or_eq_of_le (Nat.le_of_lt_succ h) with h | h; exact h2 j h; rw [h]; exact hc31.2⟩ (by omega)
      · try dsimp only at hc31
        refine TC.exit ?_; refine then_exit ?_; refine loop_exit ?_; refine block_here ?_; refine then_normal ?_; refine TC.seq ?_; refine TC.region ?_; refine TL.run1 (pure_move rfl) rfl ?_; (iterate 2 refine TL.run1 (pure_assign rfl) rfl ?_); refine TL.nil' ?_; refine TC.ret ?_; refine block_ret ?_; refine then_ret ?_
        have hn0 : 0 < n := by (rcases Nat.eq_zero_or_pos n with h | h; subst h; exact absurd ⟨by omega, hb⟩ hc31; exact h)
        have he : endT c i = i + n := endB_eq hw hb (by omega) (by omega) (fun j a d => by (have h := h2 (j - i) (by omega); rwa [show i + (j - i) = j by omega] at h)) (by (by_cases hx : i + n = c.length; exact .inl hx; exact .inr (fun h => hc31 ⟨by omega, h⟩)))
        exact ret2 (.inl rfl) rfl rfl (by unfold kindT; rw [if_neg hw, if_pos hb, he, Nat.add_sub_cancel_left])
    · try dsimp only at hc14
      have hb : ¬ BlkP c i := fun e => hc14 (mem_pr.2 e)
      refine TC.seq ?_; refine TC.region ?_; refine TL.run1 (pure_move rfl) rfl ?_; refine TL.run1 (pure_indexAddr Ty.sl62 rfl rfl (by omega) hrow (List.cons_ne_nil _ _)) rfl ?_; refine TL.run1 (pure_load Ty.agg77 rfl (.succ (.succ (.succ (.zero _))))) rfl ?_; refine TL.run1 (pure_buildSlice (xs := [.const (.int .i64 1)]) Ty.app35 (by decide) rfl rfl (.cons rfl (.one rfl) rfl .nil)) rfl ?_; refine TL.run1 (pure_call (is_spec _ _ _ [1] (by decide)) (.cons rfl (.cons rfl .nil)) Tryd.call66) rfl ?_; refine TL.run1 (pure_assign rfl) rfl ?_; refine TL.nil' ?_; refine TC.condD rfl (fun hc35 => ?_) (fun hc35 => ?_)
      · try dsimp only at hc35
        have hx35 := List.mem_singleton.1 hc35
        refine TC.seq ?_; refine TC.region ?_; (iterate 2 refine TL.run1 (pure_assign rfl) rfl ?_); refine TL.nil' ?_; refine TC.ret ?_; refine block_ret ?_; refine then_ret ?_
        have he : endT c i = i + 1 := endO_eq hw hb
        have hk : kindT c i = 6 := by (unfold kindT; rw [if_neg hw, if_neg hb, if_pos hx35])
        exact ret2 (.inl rfl) rfl rfl (by rw [he, hk, Nat.add_sub_cancel_left]; rfl)
      · try dsimp only at hc35
        have hx35 := fun e => hc35 (List.mem_singleton.2 e)
        refine TC.seq ?_; refine TC.region ?_; refine TL.run1 (pure_move rfl) rfl ?_; refine TL.run1 (pure_indexAddr Ty.sl62 rfl rfl (by omega) hrow (List.cons_ne_nil _ _)) rfl ?_; refine TL.run1 (pure_load Ty.agg77 rfl (.succ (.succ (.succ (.zero _))))) rfl ?_; refine TL.run1 (pure_buildSlice (xs := [.const (.int .i64 7)]) Ty.app35 (by decide) rfl rfl (.cons rfl (.one rfl) rfl .nil)) rfl ?_; refine TL.run1 (pure_call (is_spec _ _ _ [7] (by decide)) (.cons rfl (.cons rfl .nil)) Tryd.call66) rfl ?_; refine TL.run1 (pure_assign rfl) rfl ?_; refine TL.nil' ?_; refine TC.condD rfl (fun hc41 => ?_) (fun hc41 => ?_)
        · try dsimp only at hc41
          have hx41 := List.mem_singleton.1 hc41
          refine TC.seq ?_; refine TC.region ?_; (iterate 2 refine TL.run1 (pure_assign rfl) rfl ?_); refine TL.nil' ?_; refine TC.ret ?_; refine block_ret ?_; refine then_ret ?_
          have he : endT c i = i + 1 := endO_eq hw hb
          have hk : kindT c i = 5 := by (unfold kindT; rw [if_neg hw, if_neg hb, if_neg hx35, if_pos hx41])
          exact ret2 (.inl rfl) rfl rfl (by rw [he, hk, Nat.add_sub_cancel_left]; rfl)
        · try dsimp only at hc41
          have hx41 := fun e => hc41 (List.mem_singleton.2 e)
          refine TC.skip ?_; refine block_normal ?_; refine then_normal ?_; refine TC.seq ?_; refine TC.region ?_; (iterate 2 refine TL.run1 (pure_assign rfl) rfl ?_); refine TL.nil' ?_; refine TC.ret ?_
          have he : endT c i = i + 1 := endO_eq hw hb
          have hk : kindT c i = 4 := by (unfold kindT; rw [if_neg hw, if_neg hb, if_neg hx35, if_neg hx41])
          exact ret2 (.inl rfl) rfl rfl (by rw [he, hk, Nat.add_sub_cancel_left]; rfl)

def encTy (c b : List Int) : List (List D) := (List.range (nT c)).map fun m => [.agg (tkAt c b m)]
theorem encTy_len (c b : List Int) : (encTy c b).length = nT c := by simp [encTy]
theorem encTy_get (c b : List Int) (m : Nat) (h : m < nT c) : (encTy c b)[m]? = some [.agg (tkAt c b m)] := by simp [encTy, h]
theorem encTy_mem {c b : List Int} {m : Nat} {x : List D} (h : (encTy c b)[m]? = some x) : m < nT c ∧ x = [.agg (tkAt c b m)] := by
  have hk : m < (encTy c b).length := (List.getElem?_eq_some_iff.1 h).1
  rw [encTy_len] at hk
  rw [encTy_get c b m hk] at h
  exact ⟨hk, (Option.some.inj h).symm⟩
set_option maxRecDepth 100000 in
theorem tok_seq (c b : List Int) (g : Nat) (hc : c.length ≤ 1000000000) : SeqB Tryd.prog 56 g 62 [.sl 3 ((encK c b).drop 0)] (encTy c b) := by
  refine SeqB.enter Tryd.func56 rfl Tryd.ntmps56 Tryd.results56 rfl (fun l J Jx w F H0 hJ0 hy => ?_); refine TC.block ?_; refine TC.loopX (X := Nat × Hp) (fun (m, Hc) => [(0, .v (.func (.yield l) #[] #[])), (1, .v (.pointer (some ⟨g, 0, none⟩)))]) (fun (m, Hc) => (Blk.box g 62 [.sl 3 ((encK c b).drop (posT c m))] :: Hc)) (fun (m, Hc) => (∀ j, j < m → posT c j < c.length) ∧ (J m Hc)) (fun (m, Hc) => c.length - (posT c m)) (0, H0) ⟨by skip; repeat (first | exact Agree.nil | refine Agree.cons rfl ?_), by skip; repeat (first | exact List.nil_sublist _ | exact List.Sublist.refl _ | apply List.Sublist.cons_cons | apply List.Sublist.cons)⟩ ?_ ?_
  · skip
    exact ⟨fun j h => by omega, hJ0⟩
  rintro ⟨m, Hc⟩
  rintro ⟨hm, hJ⟩
  show TC _ _ _ (Env.of [(0, .v (.func (.yield l) #[] #[])), (1, .v (.pointer (some ⟨g, 0, none⟩)))]) (Blk.box g 62 [.sl 3 ((encK c b).drop (posT c m))] :: Hc)
  have hkl := encKd_len c b (posT c m)
  have hpe := posT_le c m
  (iterate 2 refine TC.seq ?_); refine TC.region ?_; refine TL.run1 (pure_load1_own Ty.one62 rfl (by repeat (first | exact List.Mem.head _ | apply List.Mem.tail)) (by repeat (first | exact DropR.zero _ | apply DropR.succ))) rfl ?_; refine TL.run1 (pure_len Ty.sl62 rfl) rfl ?_; refine TL.run1 (pure_gtr rfl rfl) rfl ?_; refine TL.nil' ?_; refine TC.condD rfl (fun hc7 => ?_) (fun hc7 => ?_)
  · try dsimp only at hc7
    have hpl : posT c m < c.length := by omega
    have hee := endT_spec hpl
    have hps : posT c (m + 1) = endT c (posT c m) := by rw [posT, if_pos hpl]
    have hxm : (encTy c b)[m]? = some [.agg (tkAt c b m)] := encTy_get c b m (nT_lt.2 hpl)
    have hrow : ((encK c b).drop (posT c m))[(0 : Int).toNat]? = some [.v (.int .i64 (iAt c ((posT c m : Nat) : Int))), .v (.int .i64 (iAt b ((posT c m : Nat) : Int))), .v (.int .i64 (iAt b ((posT c m + 1 : Nat) : Int)))] := encKd_get c b (posT c m) 0 (by omega)
    have hrow2 : ((encK c b).drop (posT c m))[(((endT c (posT c m) - posT c m : Nat) : Int) - 1).toNat]? = some [.v (.int .i64 (iAt c ((posT c m + (endT c (posT c m) - posT c m - 1) : Nat) : Int))), .v (.int .i64 (iAt b ((posT c m + (endT c (posT c m) - posT c m - 1) : Nat) : Int))), .v (.int .i64 (iAt b ((posT c m + (endT c (posT c m) - posT c m - 1) + 1 : Nat) : Int)))] := by (rw [show (((endT c (posT c m) - posT c m : Nat) : Int) - 1).toNat = endT c (posT c m) - posT c m - 1 by omega]; exact encKd_get c b _ _ (by omega))
    have hto : (((posT c m + (endT c (posT c m) - posT c m - 1) + 1 : Nat)) : Int) = ((endT c (posT c m) : Nat) : Int) := by omega
    rw [hto] at hrow2
    refine TC.skip' ?_; refine TC.block ?_; refine TC.seq ?_; refine TC.region ?_; refine TL.run1 (pure_load1_own Ty.one62 rfl (by repeat (first | exact List.Mem.head _ | apply List.Mem.tail)) (by repeat (first | exact DropR.zero _ | apply DropR.succ))) rfl ?_; refine TL.run1 (pure_call (next_spec c b (posT c m) hpl hc) (.cons rfl .nil) Tryd.call57) rfl ?_; refine TL.run1 (pure_move rfl) rfl ?_; (iterate 2 refine TL.run1 (pure_extract rfl rfl) rfl ?_); (iterate 2 refine TL.run1 (pure_assign rfl) rfl ?_); refine TL.nil' ?_; (iterate 2 refine TC.seq ?_); refine TC.drawTailN 13 Ty.follows (by kernel_rfl) (by kernel_rfl) ?_
    simp only [List.take_succ_cons, List.take_zero, List.drop_succ_cons, List.drop_zero]
    (iterate 2 refine TD.run1 (pure_move rfl) rfl ?_); refine TD.run1 (pure_load1_own Ty.one62 rfl (by repeat (first | exact List.Mem.head _ | apply List.Mem.tail)) (by repeat (first | exact DropR.zero _ | apply DropR.succ))) rfl ?_; refine TD.run1 (pure_indexAddr Ty.sl62 rfl rfl (by omega) hrow (List.cons_ne_nil _ _)) rfl ?_; refine TD.run1 (pure_fieldAddr Ty.f77_1 rfl (.succ (.zero _)) (List.cons_ne_nil _ _)) rfl ?_; refine TD.run1 (pure_load1 Ty.one3 rfl) rfl ?_; refine TD.run1 (pure_load1_own Ty.one62 rfl (by repeat (first | exact List.Mem.head _ | apply List.Mem.tail)) (by repeat (first | exact DropR.zero _ | apply DropR.succ))) rfl ?_; refine TD.run1 (pure_move rfl) rfl ?_; refine TD.run1 (pure_sub rfl rfl (mkI64 (by omega) (by omega))) rfl ?_; refine TD.run1 (pure_indexAddr Ty.sl62 rfl rfl (by omega) hrow2 (List.cons_ne_nil _ _)) rfl ?_; refine TD.run1 (pure_fieldAddr Ty.f77_2 rfl (.succ (.succ (.zero _))) (List.cons_ne_nil _ _)) rfl ?_; refine TD.run1 (pure_load1 Ty.one3 rfl) rfl ?_; refine TD.run1 (pure_build3 Ty.pl32 Ty.zero32 rfl rfl rfl) rfl ?_; refine TD.nil ?_
    show TL _ _ _ _ _ _
    refine TL.yield rfl (.right (SplitR.all _)) rfl (hy _ _ Hc hxm hJ) (.cons (by rw [tkAt, hps]; rfl) .nil) (by intro t ht; cases ht; exact (by decide : (26 : Nat) < 31)) (fun bb H1 hR => ?_); refine TL.perm (H' := Blk.box g 62 [.sl 3 ((encK c b).drop (posT c m))] :: H1) List.perm_append_comm ?_; refine TL.run1 (pure_not rfl) rfl ?_; refine TL.nil' ?_; refine TC.cond rfl (fun hc27 => ?_) (fun hc27 => ?_)
    · try dsimp only at hc27
      have hcy : bb = false := by simpa using hc27
      refine TC.ret ?_; refine then_ret ?_; refine block_ret ?_; refine loop_ret ?_; refine block_ret ?_
      exact ⟨.inl rfl, [], .nil, H1, .cons _ (List.Sublist.refl _), .inr ⟨_, by (have h := hR; simp only [hcy, Bool.false_eq_true, if_false] at h; exact h)⟩⟩
    · try dsimp only at hc27
      have hcy : bb = true := by simpa using hc27
      refine TC.skip' ?_; refine TC.region ?_; refine TL.run1 (pure_load1_own Ty.one62 rfl (by repeat (first | exact List.Mem.head _ | apply List.Mem.tail)) (by repeat (first | exact DropR.zero _ | apply DropR.succ))) rfl ?_; refine TL.run1 (pure_move rfl) rfl ?_; refine TL.run1 (pure_slice (l := endT c (posT c m) - posT c m) (h := ((encK c b).drop (posT c m)).length) Ty.sl62 rfl rfl rfl (by omega) (by omega)) rfl ?_
      rw [slice_drop c b _ _ (by omega)]
      refine TL.store rfl rfl (.one (by first | rfl | assumption)) Tryd.sizeOf62 rfl (by repeat (first | exact UpdR.here _ | apply UpdR.there)) (by repeat (first | exact PutR.nil _ | apply PutR.here | apply PutR.skip)) ?_; refine TL.nil ?_; refine block_normal ?_
      have hlt := posT_lt hpl
      refine loop_next (m + 1, H1) ⟨by ((try dsimp only); repeat (first | exact Agree.nil | refine Agree.cons rfl ?_)), by (try dsimp only); rw [hps]; repeat (first | exact List.nil_sublist _ | exact List.Sublist.refl _ | apply List.Sublist.cons_cons | apply List.Sublist.cons)⟩ ⟨fun j h => by rcases Nat.lt_or_eq_of_le (Nat.le_of_lt_succ h) with h | h; exact hm j h; rw [h]; exact hpl, by have h := hR; simp only [hcy, if_true] at h; exact h⟩ (by dsimp only; have := posT_le c (m + 1); omega)
  · try dsimp only at hc7
    refine TC.exit ?_; refine then_exit ?_; refine loop_exit ?_; refine block_here ?_
    have hn : nT c = m := nT_eq hm (by omega)
    exact ⟨.inr rfl, [], .nil, Hc, .cons _ (List.Sublist.refl _), .inl (by rw [encTy_len, hn]; exact hJ)⟩
end Go.Ob
