import Derived.Test.YtkmgogabbefonaaDoorPr
set_option linter.unusedVariables false
set_option linter.unusedSimpArgs false
namespace Go.Ob
open Go.Proofs

def encI (l : List Int) : List (List D) := l.map fun x => [.v (.int .i64 x)]
def iAt (l : List Int) (i : Int) : Int := l.getD i.toNat 0
theorem encI_len (l : List Int) : (encI l).length = l.length := by simp [encI]
theorem encI_get (l : List Int) (i : Int) (h0 : 0 ≤ i) (h1 : i < l.length) : (encI l)[i.toNat]? = some [.v (.int .i64 (iAt l i))] := by
  have : i.toNat < l.length := by omega
  simp [encI, iAt, this]
theorem encI_snoc (l : List Int) (a : Int) : encI (l ++ [a]) = encI l ++ [[.v (.int .i64 a)]] := by simp [encI]
theorem encI_each (l : List Int) : ∀ x ∈ encI l, x.length = 1 := by
  intro x hx; simp only [encI, List.mem_map] at hx; obtain ⟨s, _, rfl⟩ := hx; rfl
theorem iAt_snoc (l : List Int) (a : Int) (i : Int) (h0 : 0 ≤ i) (h : i < l.length) : iAt (l ++ [a]) i = iAt l i := by
  unfold iAt
  simp only [List.getD_eq_getElem?_getD]
  rw [List.getElem?_append_left (by omega)]
def classOfP (l : List Span) (p : Int) : Int := if 44032 ≤ p ∧ p ≤ 55203 then (if (p - 44032) % 28 = 0 then 11 else 12) else clsIn l p
set_option maxRecDepth 100000 in
theorem classOf_spec (l : List Span) (p : Int) (ha : Apart l) (hl : l.length ≤ 1000000) : Fun Tryd.prog 53 [.sl 3 (encS l), .v (.int .i64 p)] (.v (.int .i64 (classOfP l p))) := by
  refine Fun.enter (n := 38) (rs := [.tmp 4]) Tryd.func53 rfl Tryd.ntmps53 Tryd.results53 rfl (fun w F => ?_)
  have hk := encS_len l
  have hle := hiI_le l p
  refine TC.seq ?_
  refine TC.region ?_
  refine TL.box rfl (.one rfl) rfl (fun g2 => ?_)
  refine TL.box rfl (.one rfl) rfl (fun g3 => ?_)
  refine TL.run1 (pure_assign rfl) rfl ?_
  refine TL.nil' ?_
  refine TC.seq ?_
  refine TC.frz2 2 3 rfl rfl (.boxS (gone_nil (by repeat (first | exact List.Mem.head _ | apply List.Mem.tail))) (List.cons_ne_nil _ _)) (.boxS (gone_nil (by repeat (first | exact List.Mem.head _ | apply List.Mem.tail))) (List.cons_ne_nil _ _)) ?_
  refine TC.regionCut [6, 7, 8, 9, 10, 11] 11 (44032 ≤ p ∧ p ≤ 55203) ?_ ?_
  · skip
    first | refine TL.run1 (pure_load1 Ty.one3 rfl) rfl ?_ | refine TL.run1 (pure_load1_own Ty.one3 rfl (by repeat (first | exact List.Mem.head _ | apply List.Mem.tail)) (by repeat (first | exact DropR.zero _ | apply DropR.succ))) rfl ?_
    refine TL.run1 (pure_geq rfl rfl) rfl ?_
    refine TL.run1 (pure_move rfl) rfl ?_
    first | refine TL.splitP 8 rfl (fun hg8 => ?_) (fun hg8 => ?_) | refine TL.split 8 rfl (fun hg8 => ?_) (fun hg8 => ?_)
    · try dsimp only at hg8
      first | refine TL.runG rfl rfl (pure_load1 Ty.one3 rfl) rfl ?_ | refine TL.runG rfl rfl (pure_load1_own Ty.one3 rfl (by repeat (first | exact List.Mem.head _ | apply List.Mem.tail)) (by repeat (first | exact DropR.zero _ | apply DropR.succ))) rfl ?_
      refine TL.runG rfl rfl (pure_leq rfl rfl) rfl ?_
      refine TL.run1 (pure_pick_true rfl rfl) rfl ?_
      refine TL.cutEnd (by repeat (first | exact Same.refl _ _ | refine Same.put rfl ?_)) rfl ?_
      first | (simp only [decide_eq_true_eq, Bool.false_eq_true, false_iff, true_iff, iff_true, iff_false, Bool.not_eq_true]; omega) | (simp_all; done) | (simp_all; omega) | grind
    · try dsimp only at hg8
      refine TL.passG rfl rfl rfl rfl ?_
      refine TL.passG rfl rfl rfl rfl ?_
      refine TL.run1 (pure_pick_false rfl rfl) rfl ?_
      refine TL.cutEnd (by repeat (first | exact Same.refl _ _ | refine Same.put rfl ?_)) rfl ?_
      first | (simp only [decide_eq_true_eq, Bool.false_eq_true, false_iff, true_iff, iff_true, iff_false, Bool.not_eq_true]; omega) | (simp_all; done) | (simp_all; omega) | grind
  first | refine TC.condD rfl (fun hc11 => ?_) (fun hc11 => ?_) | refine TC.condN rfl (fun hc11 => ?_) (fun hc11 => ?_) | refine TC.cond rfl (fun hc11 => ?_) (fun hc11 => ?_)
  · try dsimp only at hc11
    refine TC.seq ?_
    refine TC.seq ?_
    refine TC.region ?_
    first | refine TL.run1 (pure_load1 Ty.one3 rfl) rfl ?_ | refine TL.run1 (pure_load1_own Ty.one3 rfl (by repeat (first | exact List.Mem.head _ | apply List.Mem.tail)) (by repeat (first | exact DropR.zero _ | apply DropR.succ))) rfl ?_
    refine TL.run1 (pure_sub rfl rfl (mkI64 (by omega) (by omega))) rfl ?_
    refine TL.run1 (pure_rem rfl rfl (by omega) (by omega)) rfl ?_
    refine TL.run1 (pure_eql rfl rfl) rfl ?_
    refine TL.nil' ?_
    first | refine TC.condD rfl (fun hc15 => ?_) (fun hc15 => ?_) | refine TC.condN rfl (fun hc15 => ?_) (fun hc15 => ?_) | refine TC.cond rfl (fun hc15 => ?_) (fun hc15 => ?_)
    · try dsimp only at hc15
      refine TC.seq ?_
      refine TC.region ?_
      refine TL.run1 (pure_assign rfl) rfl ?_
      refine TL.nil' ?_
      refine TC.ret ?_
      refine then_ret ?_
      refine then_ret ?_
      exact ret_int rfl (by unfold classOfP; rw [if_pos hc11, if_pos hc15])
    · try dsimp only at hc15
      refine TC.skip' ?_
      refine TC.seq ?_
      refine TC.region ?_
      refine TL.run1 (pure_assign rfl) rfl ?_
      refine TL.nil' ?_
      refine TC.ret ?_
      refine then_ret ?_
      exact ret_int rfl (by unfold classOfP; rw [if_pos hc11, if_neg hc15])
  · try dsimp only at hc11
    refine TC.skip' ?_
    refine TC.seq ?_
    refine TC.region ?_
    first | refine TL.run1 (pure_load1 Ty.one89 rfl) rfl ?_ | refine TL.run1 (pure_load1_own Ty.one89 rfl (by repeat (first | exact List.Mem.head _ | apply List.Mem.tail)) (by repeat (first | exact DropR.zero _ | apply DropR.succ))) rfl ?_
    first | refine TL.run1 (pure_len Ty.sl89 rfl) rfl ?_ | refine TL.run1 (pure_len_row Ty.sl89 rfl (by repeat (first | exact List.Mem.head _ | apply List.Mem.tail))) rfl ?_ | refine TL.run1 (pure_len_nil Ty.sl89 rfl) rfl ?_
    refine TL.run1 (pure_makeFunc (.cons rfl (.cons rfl .nil))) rfl ?_
    refine TL.run1 (pure_call (search45_spec l p ((encS l).length : Int) (by omega) (fun i => decide ((sAt l i).2.1 ≥ p)) (fun i a b => classOf1_spec l p i a (by omega)) (hiI l p : Int) (by omega) (by omega) (fun i a b => decide_eq_false (by have := hiI_lo l p i a b; omega)) (fun i a b => decide_eq_true (hiI_hi ha p i a (by omega)))) (.cons rfl (.cons rfl .nil)) Tryd.call68) rfl ?_
    refine TL.run1 (pure_assign rfl) rfl ?_
    refine TL.nil' ?_
    refine TC.seq ?_
    refine TC.drawCut [20, 21, 22, 23, 24, 25, 26, 27, 28, 29, 30, 31, 32] 32 ((hiI l p : Int) < l.length ∧ (sAt l (hiI l p : Int)).1 ≤ p) Ty.follows (by kernel_rfl) ?_ ?_
    · skip
      refine TD.run1 (pure_move rfl) rfl ?_
      first | refine TD.run1 (pure_load1 Ty.one89 rfl) rfl ?_ | refine TD.run1 (pure_load1_own Ty.one89 rfl (by repeat (first | exact List.Mem.head _ | apply List.Mem.tail)) (by repeat (first | exact DropR.zero _ | apply DropR.succ))) rfl ?_
      first | refine TD.run1 (pure_len Ty.sl89 rfl) rfl ?_ | refine TD.run1 (pure_len_row Ty.sl89 rfl (by repeat (first | exact List.Mem.head _ | apply List.Mem.tail))) rfl ?_ | refine TD.run1 (pure_len_nil Ty.sl89 rfl) rfl ?_
      refine TD.run1 (pure_lss rfl rfl) rfl ?_
      refine TD.run1 (pure_move rfl) rfl ?_
      first | refine TD.splitP 24 rfl (fun hg24 => ?_) (fun hg24 => ?_) | refine TD.split 24 rfl (fun hg24 => ?_) (fun hg24 => ?_)
      · try dsimp only at hg24
        have hrow := encS_get l (hiI l p : Int) (by omega) (by omega)
        first | refine TD.runG rfl rfl (pure_load1 Ty.one89 rfl) rfl ?_ | refine TD.runG rfl rfl (pure_load1_own Ty.one89 rfl (by repeat (first | exact List.Mem.head _ | apply List.Mem.tail)) (by repeat (first | exact DropR.zero _ | apply DropR.succ))) rfl ?_
        refine TD.runG rfl rfl (pure_move rfl) rfl ?_
        refine TD.runG rfl rfl (pure_indexAddr Ty.sl89 rfl rfl (by omega) (by assumption) (List.cons_ne_nil _ _)) rfl ?_
        first | refine TD.runG rfl rfl (pure_fieldAddr Ty.f108_0 rfl (.zero _) (List.cons_ne_nil _ _)) rfl ?_ | refine TD.runG rfl rfl (pure_fieldAddr_own Ty.f108_0 rfl) rfl ?_
        first | refine TD.runG rfl rfl (pure_load1 Ty.one3 rfl) rfl ?_ | refine TD.runG rfl rfl (pure_load1_own Ty.one3 rfl (by repeat (first | exact List.Mem.head _ | apply List.Mem.tail)) (by repeat (first | exact DropR.zero _ | apply DropR.succ))) rfl ?_
        first | refine TD.runG rfl rfl (pure_load1 Ty.one3 rfl) rfl ?_ | refine TD.runG rfl rfl (pure_load1_own Ty.one3 rfl (by repeat (first | exact List.Mem.head _ | apply List.Mem.tail)) (by repeat (first | exact DropR.zero _ | apply DropR.succ))) rfl ?_
        refine TD.runG rfl rfl (pure_leq rfl rfl) rfl ?_
        refine TD.run1 (pure_pick_true rfl rfl) rfl ?_
        refine TD.cutEnd (by repeat (first | exact Same.refl _ _ | refine Same.put rfl ?_)) rfl ?_
        first | (simp only [decide_eq_true_eq, Bool.false_eq_true, false_iff, true_iff, iff_true, iff_false, Bool.not_eq_true]; omega) | (simp_all; done) | (simp_all; omega) | grind
      · try dsimp only at hg24
        refine TD.passG rfl rfl rfl rfl ?_
        refine TD.passG rfl rfl rfl rfl ?_
        refine TD.passG rfl rfl rfl rfl ?_
        refine TD.passG rfl rfl rfl rfl ?_
        refine TD.passG rfl rfl rfl rfl ?_
        refine TD.passG rfl rfl rfl rfl ?_
        refine TD.passG rfl rfl rfl rfl ?_
        refine TD.run1 (pure_pick_false rfl rfl) rfl ?_
        refine TD.cutEnd (by repeat (first | exact Same.refl _ _ | refine Same.put rfl ?_)) rfl ?_
        first | (simp only [decide_eq_true_eq, Bool.false_eq_true, false_iff, true_iff, iff_true, iff_false, Bool.not_eq_true]; omega) | (simp_all; done) | (simp_all; omega) | grind
    first | refine TC.condD rfl (fun hc32 => ?_) (fun hc32 => ?_) | refine TC.condN rfl (fun hc32 => ?_) (fun hc32 => ?_) | refine TC.cond rfl (fun hc32 => ?_) (fun hc32 => ?_)
    · try dsimp only at hc32
      refine TC.seq ?_
      have hrow := encS_get l (hiI l p : Int) (by omega) (by omega)
      refine TC.region ?_
      first | refine TL.run1 (pure_load1 Ty.one89 rfl) rfl ?_ | refine TL.run1 (pure_load1_own Ty.one89 rfl (by repeat (first | exact List.Mem.head _ | apply List.Mem.tail)) (by repeat (first | exact DropR.zero _ | apply DropR.succ))) rfl ?_
      refine TL.run1 (pure_move rfl) rfl ?_
      refine TL.run1 (pure_indexAddr Ty.sl89 rfl rfl (by omega) (by assumption) (List.cons_ne_nil _ _)) rfl ?_
      first | refine TL.run1 (pure_fieldAddr Ty.f108_2 rfl (.succ (.succ (.zero _))) (List.cons_ne_nil _ _)) rfl ?_ | refine TL.run1 (pure_fieldAddr_own Ty.f108_2 rfl) rfl ?_
      first | refine TL.run1 (pure_load1 Ty.one3 rfl) rfl ?_ | refine TL.run1 (pure_load1_own Ty.one3 rfl (by repeat (first | exact List.Mem.head _ | apply List.Mem.tail)) (by repeat (first | exact DropR.zero _ | apply DropR.succ))) rfl ?_
      refine TL.run1 (pure_assign rfl) rfl ?_
      refine TL.nil' ?_
      refine TC.ret ?_
      refine then_ret ?_
      exact ret_int rfl (by unfold classOfP; rw [if_neg hc11, clsIn_hi ha, if_pos hc32])
    · try dsimp only at hc32
      refine TC.skip' ?_
      refine TC.seq ?_
      refine TC.region ?_
      refine TL.run1 (pure_assign rfl) rfl ?_
      refine TL.nil' ?_
      refine TC.ret ?_
      exact ret_int rfl (by unfold classOfP; rw [if_neg hc11, clsIn_hi ha, if_neg hc32])
set_option maxRecDepth 100000 in
theorem Class_spec (p : Int) : Fun Tryd.prog 56 [.v (.int .i64 p)] (.v (.int .i64 (classP p))) := by
  refine Fun.enter (n := 6) (rs := [.tmp 2]) Tryd.func56 rfl Tryd.ntmps56 Tryd.results56 rfl (fun w F => ?_)
  refine TC.seq ?_
  refine TC.region ?_
  refine TL.run1 (pure_assign rfl) rfl ?_
  refine TL.nil' ?_
  refine TC.seq ?_
  refine TC.region ?_
  refine TL.run1 (pure_call (table_spec) .nil Tryd.call52) rfl ?_
  refine TL.run1 (pure_move rfl) rfl ?_
  refine TL.run1 (pure_call (classOf_spec _ _ tabG_apart (by rw [tabG_len]; omega)) (.cons rfl (.cons rfl .nil)) Tryd.call53) rfl ?_
  refine TL.run1 (pure_assign rfl) rfl ?_
  refine TL.nil' ?_
  refine TC.ret ?_
  exact ret_int rfl rfl
end Go.Ob
