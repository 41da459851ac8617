import Derived.Test.YtlhjcleejolbiaaZg
set_option linter.unusedVariables false
set_option linter.unusedSimpArgs false
set_option linter.unnecessarySimpa false
set_option linter.unusedVariables false
set_option linter.unusedSimpArgs false
namespace Go.Ob
open Go.Proofs
def covV (rs : List RowD) (a : A4) : A4 := if InsideA rs a then covN rs a else a0
def covE (rs : List RowD) (a : A4) : Int := if InsideA rs a then 0 else 2
def FineR (rs : List RowD) (e : A4) (j n : Int) : Prop := ∀ k : Int, k < n → Val rs j k → (spN rs j k).1 < e.r → e.l < (spN rs j k).2 → SubQ (rectN rs j k) e
theorem fine_closed {rs : List RowD} {a : A4} (hab : a.t < a.b) (h : ∀ j : Int, a.t ≤ j → j < a.b → FineR rs a j (ncN rs j)) : ClosedA (layRects rs) a := by
  intro q hq hm
  obtain ⟨i, k, h1, h2, hv, rfl, h3, h4⟩ := meet_cell hq hm hab
  exact h i h1 h2 k hv.2.2.2.1 hv h3 h4
theorem grow_ne {q : R6} {a e : A4} (h : ¬ SubQ q e) (ha : LeA a e) : a ≠ growA q e := by
  rintro rfl
  apply h
  unfold LeA growA at ha
  simp only at ha
  unfold SubQ
  omega
theorem FineR.step {rs : List RowD} {e : A4} {j n : Int} (h : FineR rs e j n) (hn : Val rs j n → (spN rs j n).1 < e.r → e.l < (spN rs j n).2 → SubQ (rectN rs j n) e) : FineR rs e j (n + 1) := fun k hk hv h1 h2 => by
  rcases Int.lt_or_eq_of_le (show k ≤ n by omega) with hl | hl
  · exact h k hl hv h1 h2
  · subst hl; exact hn hv h1 h2
theorem FineR.zero (rs : List RowD) (e : A4) (j : Int) : FineR rs e j 0 := fun k hk hv => by have := hv.2.2.1; omega
set_option maxRecDepth 100000 in
theorem inside_spec (rs : List RowD) (hr : TabOk rs) (a : A4) : Fun Try.prog 21 [.sl 6 (encRs rs), .agg [.v (.int .i64 a.t), .v (.int .i64 a.l), .v (.int .i64 a.b), .v (.int .i64 a.r)]] (.v (.bool (decide (InsideA rs a)))) := by
  refine Fun.enter (n := 41) (rs := [.tmp 4]) Try.func21 rfl Try.ntmps21 Try.results21 rfl (fun w F => ?_)
  have hk := encRs_len rs
  refine TC.seq ?_
  refine TC.region ?_
  refine TL.box rfl (.agg _) rfl (fun g3 => ?_)
  refine TL.run1 (pure_assign rfl) rfl ?_
  refine TL.nil' ?_
  refine TC.drawCut [5, 6, 7, 8, 9, 10, 11, 12, 13, 14, 15, 16, 17, 18, 19, 20, 21, 22, 23, 24, 25, 26, 27, 28, 29, 30, 31, 32, 33, 34, 35, 36, 37, 38, 39, 40, 4] 4 (InsideA rs a) Ty.follows (by kernel_rfl) ?_ ?_
  · skip
    first | refine TD.run1 (pure_fieldAddr Ty.f38_0 rfl (.zero _) (List.cons_ne_nil _ _)) rfl ?_ | refine TD.run1 (pure_fieldAddr_own Ty.f38_0 rfl) rfl ?_
    first | refine TD.run1 (pure_load1 Ty.one3 rfl) rfl ?_ | refine TD.run1 (pure_load1_own Ty.one3 rfl (by repeat (first | exact List.Mem.head _ | apply List.Mem.tail)) (by repeat (first | exact DropR.zero _ | apply DropR.succ))) rfl ?_
    refine TD.run1 (pure_geq rfl rfl) rfl ?_
    refine TD.run1 (pure_move rfl) rfl ?_
    first | refine TD.splitP 8 rfl (fun hg8 => ?_) (fun hg8 => ?_) | refine TD.split 8 rfl (fun hg8 => ?_) (fun hg8 => ?_)
    · try dsimp only at hg8
      first | refine TD.runG rfl rfl (pure_fieldAddr Ty.f38_0 rfl (.zero _) (List.cons_ne_nil _ _)) rfl ?_ | refine TD.runG rfl rfl (pure_fieldAddr_own Ty.f38_0 rfl) rfl ?_
      first | refine TD.runG rfl rfl (pure_load1 Ty.one3 rfl) rfl ?_ | refine TD.runG rfl rfl (pure_load1_own Ty.one3 rfl (by repeat (first | exact List.Mem.head _ | apply List.Mem.tail)) (by repeat (first | exact DropR.zero _ | apply DropR.succ))) rfl ?_
      first | refine TD.runG rfl rfl (pure_fieldAddr Ty.f38_2 rfl (.succ (.succ (.zero _))) (List.cons_ne_nil _ _)) rfl ?_ | refine TD.runG rfl rfl (pure_fieldAddr_own Ty.f38_2 rfl) rfl ?_
      first | refine TD.runG rfl rfl (pure_load1 Ty.one3 rfl) rfl ?_ | refine TD.runG rfl rfl (pure_load1_own Ty.one3 rfl (by repeat (first | exact List.Mem.head _ | apply List.Mem.tail)) (by repeat (first | exact DropR.zero _ | apply DropR.succ))) rfl ?_
      refine TD.runG rfl rfl (pure_lss rfl rfl) rfl ?_
      refine TD.run1 (pure_pick_true rfl rfl) rfl ?_
      refine TD.run1 (pure_move rfl) rfl ?_
      first | refine TD.splitP 15 rfl (fun hg15 => ?_) (fun hg15 => ?_) | refine TD.split 15 rfl (fun hg15 => ?_) (fun hg15 => ?_)
      · try dsimp only at hg15
        first | refine TD.runG rfl rfl (pure_fieldAddr Ty.f38_2 rfl (.succ (.succ (.zero _))) (List.cons_ne_nil _ _)) rfl ?_ | refine TD.runG rfl rfl (pure_fieldAddr_own Ty.f38_2 rfl) rfl ?_
        first | refine TD.runG rfl rfl (pure_load1 Ty.one3 rfl) rfl ?_ | refine TD.runG rfl rfl (pure_load1_own Ty.one3 rfl (by repeat (first | exact List.Mem.head _ | apply List.Mem.tail)) (by repeat (first | exact DropR.zero _ | apply DropR.succ))) rfl ?_
        refine TD.runG rfl rfl (pure_move rfl) rfl ?_
        first | refine TD.runG rfl rfl (pure_len Ty.sl22 rfl) rfl ?_ | refine TD.runG rfl rfl (pure_len_row Ty.sl22 rfl (by repeat (first | exact List.Mem.head _ | apply List.Mem.tail))) rfl ?_ | refine TD.runG rfl rfl (pure_len_nil Ty.sl22 rfl) rfl ?_
        refine TD.runG rfl rfl (pure_leq rfl rfl) rfl ?_
        refine TD.run1 (pure_pick_true rfl rfl) rfl ?_
        refine TD.run1 (pure_move rfl) rfl ?_
        first | refine TD.splitP 22 rfl (fun hg22 => ?_) (fun hg22 => ?_) | refine TD.split 22 rfl (fun hg22 => ?_) (fun hg22 => ?_)
        · try dsimp only at hg22
          first | refine TD.runG rfl rfl (pure_fieldAddr Ty.f38_1 rfl (.succ (.zero _)) (List.cons_ne_nil _ _)) rfl ?_ | refine TD.runG rfl rfl (pure_fieldAddr_own Ty.f38_1 rfl) rfl ?_
          first | refine TD.runG rfl rfl (pure_load1 Ty.one3 rfl) rfl ?_ | refine TD.runG rfl rfl (pure_load1_own Ty.one3 rfl (by repeat (first | exact List.Mem.head _ | apply List.Mem.tail)) (by repeat (first | exact DropR.zero _ | apply DropR.succ))) rfl ?_
          refine TD.runG rfl rfl (pure_geq rfl rfl) rfl ?_
          refine TD.run1 (pure_pick_true rfl rfl) rfl ?_
          refine TD.run1 (pure_move rfl) rfl ?_
          first | refine TD.splitP 27 rfl (fun hg27 => ?_) (fun hg27 => ?_) | refine TD.split 27 rfl (fun hg27 => ?_) (fun hg27 => ?_)
          · try dsimp only at hg27
            first | refine TD.runG rfl rfl (pure_fieldAddr Ty.f38_1 rfl (.succ (.zero _)) (List.cons_ne_nil _ _)) rfl ?_ | refine TD.runG rfl rfl (pure_fieldAddr_own Ty.f38_1 rfl) rfl ?_
            first | refine TD.runG rfl rfl (pure_load1 Ty.one3 rfl) rfl ?_ | refine TD.runG rfl rfl (pure_load1_own Ty.one3 rfl (by repeat (first | exact List.Mem.head _ | apply List.Mem.tail)) (by repeat (first | exact DropR.zero _ | apply DropR.succ))) rfl ?_
            first | refine TD.runG rfl rfl (pure_fieldAddr Ty.f38_3 rfl (.succ (.succ (.succ (.zero _)))) (List.cons_ne_nil _ _)) rfl ?_ | refine TD.runG rfl rfl (pure_fieldAddr_own Ty.f38_3 rfl) rfl ?_
            first | refine TD.runG rfl rfl (pure_load1 Ty.one3 rfl) rfl ?_ | refine TD.runG rfl rfl (pure_load1_own Ty.one3 rfl (by repeat (first | exact List.Mem.head _ | apply List.Mem.tail)) (by repeat (first | exact DropR.zero _ | apply DropR.succ))) rfl ?_
            refine TD.runG rfl rfl (pure_lss rfl rfl) rfl ?_
            refine TD.run1 (pure_pick_true rfl rfl) rfl ?_
            refine TD.run1 (pure_move rfl) rfl ?_
            first | refine TD.splitP 34 rfl (fun hg34 => ?_) (fun hg34 => ?_) | refine TD.split 34 rfl (fun hg34 => ?_) (fun hg34 => ?_)
            · try dsimp only at hg34
              first | refine TD.runG rfl rfl (pure_fieldAddr Ty.f38_3 rfl (.succ (.succ (.succ (.zero _)))) (List.cons_ne_nil _ _)) rfl ?_ | refine TD.runG rfl rfl (pure_fieldAddr_own Ty.f38_3 rfl) rfl ?_
              first | refine TD.runG rfl rfl (pure_load1 Ty.one3 rfl) rfl ?_ | refine TD.runG rfl rfl (pure_load1_own Ty.one3 rfl (by repeat (first | exact List.Mem.head _ | apply List.Mem.tail)) (by repeat (first | exact DropR.zero _ | apply DropR.succ))) rfl ?_
              refine TD.runG rfl rfl (pure_move rfl) rfl ?_
              refine TD.runG rfl rfl (pure_call (Width_spec _ hr) (.cons rfl .nil) Try.call18) rfl ?_
              refine TD.runG rfl rfl (pure_leq rfl rfl) rfl ?_
              refine TD.run1 (pure_pick_true rfl rfl) rfl ?_
              refine TD.run1 (pure_assign rfl) rfl ?_
              refine TD.cutEnd (by repeat (first | exact Same.refl _ _ | refine Same.put rfl ?_)) rfl ?_
              first | (simp only [InsideA, decide_eq_true_eq, Bool.false_eq_true, false_iff, true_iff, iff_true, iff_false, Bool.not_eq_true, Decidable.not_not]; omega) | grind [InsideA]
            · try dsimp only at hg34
              refine TD.passG rfl rfl rfl rfl ?_
              refine TD.passG rfl rfl rfl rfl ?_
              refine TD.passG rfl rfl rfl rfl ?_
              refine TD.passG rfl rfl rfl rfl ?_
              refine TD.passG rfl rfl rfl rfl ?_
              refine TD.run1 (pure_pick_false rfl rfl) rfl ?_
              refine TD.run1 (pure_assign rfl) rfl ?_
              refine TD.cutEnd (by repeat (first | exact Same.refl _ _ | refine Same.put rfl ?_)) rfl ?_
              first | (simp only [InsideA, decide_eq_true_eq, Bool.false_eq_true, false_iff, true_iff, iff_true, iff_false, Bool.not_eq_true, Decidable.not_not]; omega) | grind [InsideA]
          · try dsimp only at hg27
            refine TD.passG rfl rfl rfl rfl ?_
            refine TD.passG rfl rfl rfl rfl ?_
            refine TD.passG rfl rfl rfl rfl ?_
            refine TD.passG rfl rfl rfl rfl ?_
            refine TD.passG rfl rfl rfl rfl ?_
            refine TD.run1 (pure_pick_false rfl rfl) rfl ?_
            refine TD.run1 (pure_move rfl) rfl ?_
            refine TD.passG rfl rfl rfl rfl ?_
            refine TD.passG rfl rfl rfl rfl ?_
            refine TD.passG rfl rfl rfl rfl ?_
            refine TD.passG rfl rfl rfl rfl ?_
            refine TD.passG rfl rfl rfl rfl ?_
            refine TD.run1 (pure_pick_false rfl rfl) rfl ?_
            refine TD.run1 (pure_assign rfl) rfl ?_
            refine TD.cutEnd (by repeat (first | exact Same.refl _ _ | refine Same.put rfl ?_)) rfl ?_
            first | (simp only [InsideA, decide_eq_true_eq, Bool.false_eq_true, false_iff, true_iff, iff_true, iff_false, Bool.not_eq_true, Decidable.not_not]; omega) | grind [InsideA]
        · try dsimp only at hg22
          refine TD.passG rfl rfl rfl rfl ?_
          refine TD.passG rfl rfl rfl rfl ?_
          refine TD.passG rfl rfl rfl rfl ?_
          refine TD.run1 (pure_pick_false rfl rfl) rfl ?_
          refine TD.run1 (pure_move rfl) rfl ?_
          refine TD.passG rfl rfl rfl rfl ?_
          refine TD.passG rfl rfl rfl rfl ?_
          refine TD.passG rfl rfl rfl rfl ?_
          refine TD.passG rfl rfl rfl rfl ?_
          refine TD.passG rfl rfl rfl rfl ?_
          refine TD.run1 (pure_pick_false rfl rfl) rfl ?_
          refine TD.run1 (pure_move rfl) rfl ?_
          refine TD.passG rfl rfl rfl rfl ?_
          refine TD.passG rfl rfl rfl rfl ?_
          refine TD.passG rfl rfl rfl rfl ?_
          refine TD.passG rfl rfl rfl rfl ?_
          refine TD.passG rfl rfl rfl rfl ?_
          refine TD.run1 (pure_pick_false rfl rfl) rfl ?_
          refine TD.run1 (pure_assign rfl) rfl ?_
          refine TD.cutEnd (by repeat (first | exact Same.refl _ _ | refine Same.put rfl ?_)) rfl ?_
          first | (simp only [InsideA, decide_eq_true_eq, Bool.false_eq_true, false_iff, true_iff, iff_true, iff_false, Bool.not_eq_true, Decidable.not_not]; omega) | grind [InsideA]
      · try dsimp only at hg15
        refine TD.passG rfl rfl rfl rfl ?_
        refine TD.passG rfl rfl rfl rfl ?_
        refine TD.passG rfl rfl rfl rfl ?_
        refine TD.passG rfl rfl rfl rfl ?_
        refine TD.passG rfl rfl rfl rfl ?_
        refine TD.run1 (pure_pick_false rfl rfl) rfl ?_
        refine TD.run1 (pure_move rfl) rfl ?_
        refine TD.passG rfl rfl rfl rfl ?_
        refine TD.passG rfl rfl rfl rfl ?_
        refine TD.passG rfl rfl rfl rfl ?_
        refine TD.run1 (pure_pick_false rfl rfl) rfl ?_
        refine TD.run1 (pure_move rfl) rfl ?_
        refine TD.passG rfl rfl rfl rfl ?_
        refine TD.passG rfl rfl rfl rfl ?_
        refine TD.passG rfl rfl rfl rfl ?_
        refine TD.passG rfl rfl rfl rfl ?_
        refine TD.passG rfl rfl rfl rfl ?_
        refine TD.run1 (pure_pick_false rfl rfl) rfl ?_
        refine TD.run1 (pure_move rfl) rfl ?_
        refine TD.passG rfl rfl rfl rfl ?_
        refine TD.passG rfl rfl rfl rfl ?_
        refine TD.passG rfl rfl rfl rfl ?_
        refine TD.passG rfl rfl rfl rfl ?_
        refine TD.passG rfl rfl rfl rfl ?_
        refine TD.run1 (pure_pick_false rfl rfl) rfl ?_
        refine TD.run1 (pure_assign rfl) rfl ?_
        refine TD.cutEnd (by repeat (first | exact Same.refl _ _ | refine Same.put rfl ?_)) rfl ?_
        first | (simp only [InsideA, decide_eq_true_eq, Bool.false_eq_true, false_iff, true_iff, iff_true, iff_false, Bool.not_eq_true, Decidable.not_not]; omega) | grind [InsideA]
    · try dsimp only at hg8
      refine TD.passG rfl rfl rfl rfl ?_
      refine TD.passG rfl rfl rfl rfl ?_
      refine TD.passG rfl rfl rfl rfl ?_
      refine TD.passG rfl rfl rfl rfl ?_
      refine TD.passG rfl rfl rfl rfl ?_
      refine TD.run1 (pure_pick_false rfl rfl) rfl ?_
      refine TD.run1 (pure_move rfl) rfl ?_
      refine TD.passG rfl rfl rfl rfl ?_
      refine TD.passG rfl rfl rfl rfl ?_
      refine TD.passG rfl rfl rfl rfl ?_
      refine TD.passG rfl rfl rfl rfl ?_
      refine TD.passG rfl rfl rfl rfl ?_
      refine TD.run1 (pure_pick_false rfl rfl) rfl ?_
      refine TD.run1 (pure_move rfl) rfl ?_
      refine TD.passG rfl rfl rfl rfl ?_
      refine TD.passG rfl rfl rfl rfl ?_
      refine TD.passG rfl rfl rfl rfl ?_
      refine TD.run1 (pure_pick_false rfl rfl) rfl ?_
      refine TD.run1 (pure_move rfl) rfl ?_
      refine TD.passG rfl rfl rfl rfl ?_
      refine TD.passG rfl rfl rfl rfl ?_
      refine TD.passG rfl rfl rfl rfl ?_
      refine TD.passG rfl rfl rfl rfl ?_
      refine TD.passG rfl rfl rfl rfl ?_
      refine TD.run1 (pure_pick_false rfl rfl) rfl ?_
      refine TD.run1 (pure_move rfl) rfl ?_
      refine TD.passG rfl rfl rfl rfl ?_
      refine TD.passG rfl rfl rfl rfl ?_
      refine TD.passG rfl rfl rfl rfl ?_
      refine TD.passG rfl rfl rfl rfl ?_
      refine TD.passG rfl rfl rfl rfl ?_
      refine TD.run1 (pure_pick_false rfl rfl) rfl ?_
      refine TD.run1 (pure_assign rfl) rfl ?_
      refine TD.cutEnd (by repeat (first | exact Same.refl _ _ | refine Same.put rfl ?_)) rfl ?_
      first | (simp only [InsideA, decide_eq_true_eq, Bool.false_eq_true, false_iff, true_iff, iff_true, iff_false, Bool.not_eq_true, Decidable.not_not]; omega) | grind [InsideA]
  refine TC.ret ?_
  exact ret_bool rfl rfl
set_option maxRecDepth 100000 in
theorem GCover_spec (rs : List RowD) (hr : TabOk rs) (hl : rs.length ≤ 2000) (x : A4) : Fun Try.prog 20 [.sl 6 (encRs rs), .agg [.v (.int .i64 x.t), .v (.int .i64 x.l), .v (.int .i64 x.b), .v (.int .i64 x.r)]] (.tup [.agg (encA (covV rs x)), .v (.int .i64 (covE rs x))]) := by
  refine Fun.enter (n := 113) (rs := [.cell 4 38, .tmp 5]) Try.func20 rfl Try.ntmps20 Try.results20 rfl (fun w F => ?_)
  have hk := encRs_len rs
  have hql : (layRects rs).length ≤ 2000 * rs.length := (lay_ok (fun r hh => (hr.1 r hh).2.2) rs.length (Nat.le_refl _)).len
  refine TC.seq ?_
  refine TC.region ?_
  refine TL.box rfl (.agg _) rfl (fun g3 => ?_)
  refine TL.alloc Ty.zero38 rfl (fun g4 => ?_)
  refine TL.run1 (pure_assign rfl) rfl ?_
  refine TL.nil' ?_
  refine TC.seq ?_
  refine TC.drawCut [11, 12, 13, 14, 15, 16, 17, 18, 19, 20, 21, 22, 23, 24, 25, 26, 27, 28, 29, 30, 31, 32, 33, 34, 35, 36, 37, 38, 39, 40, 41, 42, 43, 44, 45, 46] 46 (¬ InsideA rs x) Ty.follows (by kernel_rfl) ?_ ?_
  · skip
    first | refine TD.run1 (pure_fieldAddr Ty.f38_0 rfl (.zero _) (List.cons_ne_nil _ _)) rfl ?_ | refine TD.run1 (pure_fieldAddr_own Ty.f38_0 rfl) rfl ?_
    first | refine TD.run1 (pure_load1 Ty.one3 rfl) rfl ?_ | refine TD.run1 (pure_load1_own Ty.one3 rfl (by repeat (first | exact List.Mem.head _ | apply List.Mem.tail)) (by repeat (first | exact DropR.zero _ | apply DropR.succ))) rfl ?_
    refine TD.run1 (pure_lss rfl rfl) rfl ?_
    refine TD.run1 (pure_move rfl) rfl ?_
    first | refine TD.splitP 14 rfl (fun hg14 => ?_) (fun hg14 => ?_) | refine TD.split 14 rfl (fun hg14 => ?_) (fun hg14 => ?_)
    · try dsimp only at hg14
      refine TD.passG rfl rfl rfl rfl ?_
      refine TD.passG rfl rfl rfl rfl ?_
      refine TD.passG rfl rfl rfl rfl ?_
      refine TD.passG rfl rfl rfl rfl ?_
      refine TD.passG rfl rfl rfl rfl ?_
      refine TD.run1 (pure_pick_true rfl rfl) rfl ?_
      refine TD.run1 (pure_move rfl) rfl ?_
      refine TD.passG rfl rfl rfl rfl ?_
      refine TD.passG rfl rfl rfl rfl ?_
      refine TD.passG rfl rfl rfl rfl ?_
      refine TD.passG rfl rfl rfl rfl ?_
      refine TD.passG rfl rfl rfl rfl ?_
      refine TD.run1 (pure_pick_true rfl rfl) rfl ?_
      refine TD.run1 (pure_move rfl) rfl ?_
      refine TD.passG rfl rfl rfl rfl ?_
      refine TD.passG rfl rfl rfl rfl ?_
      refine TD.passG rfl rfl rfl rfl ?_
      refine TD.run1 (pure_pick_true rfl rfl) rfl ?_
      refine TD.run1 (pure_move rfl) rfl ?_
      refine TD.passG rfl rfl rfl rfl ?_
      refine TD.passG rfl rfl rfl rfl ?_
      refine TD.passG rfl rfl rfl rfl ?_
      refine TD.passG rfl rfl rfl rfl ?_
      refine TD.passG rfl rfl rfl rfl ?_
      refine TD.run1 (pure_pick_true rfl rfl) rfl ?_
      refine TD.run1 (pure_move rfl) rfl ?_
      refine TD.passG rfl rfl rfl rfl ?_
      refine TD.passG rfl rfl rfl rfl ?_
      refine TD.passG rfl rfl rfl rfl ?_
      refine TD.passG rfl rfl rfl rfl ?_
      refine TD.passG rfl rfl rfl rfl ?_
      refine TD.run1 (pure_pick_true rfl rfl) rfl ?_
      refine TD.cutEnd (by repeat (first | exact Same.refl _ _ | refine Same.put rfl ?_)) rfl ?_
      first | (simp only [InsideA, decide_eq_true_eq, Bool.false_eq_true, false_iff, true_iff, iff_true, iff_false, Bool.not_eq_true, Decidable.not_not]; omega) | grind [InsideA]
    · try dsimp only at hg14
      first | refine TD.runG rfl rfl (pure_fieldAddr Ty.f38_0 rfl (.zero _) (List.cons_ne_nil _ _)) rfl ?_ | refine TD.runG rfl rfl (pure_fieldAddr_own Ty.f38_0 rfl) rfl ?_
      first | refine TD.runG rfl rfl (pure_load1 Ty.one3 rfl) rfl ?_ | refine TD.runG rfl rfl (pure_load1_own Ty.one3 rfl (by repeat (first | exact List.Mem.head _ | apply List.Mem.tail)) (by repeat (first | exact DropR.zero _ | apply DropR.succ))) rfl ?_
      first | refine TD.runG rfl rfl (pure_fieldAddr Ty.f38_2 rfl (.succ (.succ (.zero _))) (List.cons_ne_nil _ _)) rfl ?_ | refine TD.runG rfl rfl (pure_fieldAddr_own Ty.f38_2 rfl) rfl ?_
      first | refine TD.runG rfl rfl (pure_load1 Ty.one3 rfl) rfl ?_ | refine TD.runG rfl rfl (pure_load1_own Ty.one3 rfl (by repeat (first | exact List.Mem.head _ | apply List.Mem.tail)) (by repeat (first | exact DropR.zero _ | apply DropR.succ))) rfl ?_
      refine TD.runG rfl rfl (pure_geq rfl rfl) rfl ?_
      refine TD.run1 (pure_pick_false rfl rfl) rfl ?_
      refine TD.run1 (pure_move rfl) rfl ?_
      first | refine TD.splitP 21 rfl (fun hg21 => ?_) (fun hg21 => ?_) | refine TD.split 21 rfl (fun hg21 => ?_) (fun hg21 => ?_)
      · try dsimp only at hg21
        refine TD.passG rfl rfl rfl rfl ?_
        refine TD.passG rfl rfl rfl rfl ?_
        refine TD.passG rfl rfl rfl rfl ?_
        refine TD.passG rfl rfl rfl rfl ?_
        refine TD.passG rfl rfl rfl rfl ?_
        refine TD.run1 (pure_pick_true rfl rfl) rfl ?_
        refine TD.run1 (pure_move rfl) rfl ?_
        refine TD.passG rfl rfl rfl rfl ?_
        refine TD.passG rfl rfl rfl rfl ?_
        refine TD.passG rfl rfl rfl rfl ?_
        refine TD.run1 (pure_pick_true rfl rfl) rfl ?_
        refine TD.run1 (pure_move rfl) rfl ?_
        refine TD.passG rfl rfl rfl rfl ?_
        refine TD.passG rfl rfl rfl rfl ?_
        refine TD.passG rfl rfl rfl rfl ?_
        refine TD.passG rfl rfl rfl rfl ?_
        refine TD.passG rfl rfl rfl rfl ?_
        refine TD.run1 (pure_pick_true rfl rfl) rfl ?_
        refine TD.run1 (pure_move rfl) rfl ?_
        refine TD.passG rfl rfl rfl rfl ?_
        refine TD.passG rfl rfl rfl rfl ?_
        refine TD.passG rfl rfl rfl rfl ?_
        refine TD.passG rfl rfl rfl rfl ?_
        refine TD.passG rfl rfl rfl rfl ?_
        refine TD.run1 (pure_pick_true rfl rfl) rfl ?_
        refine TD.cutEnd (by repeat (first | exact Same.refl _ _ | refine Same.put rfl ?_)) rfl ?_
        first | (simp only [InsideA, decide_eq_true_eq, Bool.false_eq_true, false_iff, true_iff, iff_true, iff_false, Bool.not_eq_true, Decidable.not_not]; omega) | grind [InsideA]
      · try dsimp only at hg21
        first | refine TD.runG rfl rfl (pure_fieldAddr Ty.f38_2 rfl (.succ (.succ (.zero _))) (List.cons_ne_nil _ _)) rfl ?_ | refine TD.runG rfl rfl (pure_fieldAddr_own Ty.f38_2 rfl) rfl ?_
        first | refine TD.runG rfl rfl (pure_load1 Ty.one3 rfl) rfl ?_ | refine TD.runG rfl rfl (pure_load1_own Ty.one3 rfl (by repeat (first | exact List.Mem.head _ | apply List.Mem.tail)) (by repeat (first | exact DropR.zero _ | apply DropR.succ))) rfl ?_
        refine TD.runG rfl rfl (pure_move rfl) rfl ?_
        first | refine TD.runG rfl rfl (pure_len Ty.sl22 rfl) rfl ?_ | refine TD.runG rfl rfl (pure_len_row Ty.sl22 rfl (by repeat (first | exact List.Mem.head _ | apply List.Mem.tail))) rfl ?_ | refine TD.runG rfl rfl (pure_len_nil Ty.sl22 rfl) rfl ?_
        refine TD.runG rfl rfl (pure_gtr rfl rfl) rfl ?_
        refine TD.run1 (pure_pick_false rfl rfl) rfl ?_
        refine TD.run1 (pure_move rfl) rfl ?_
        first | refine TD.splitP 28 rfl (fun hg28 => ?_) (fun hg28 => ?_) | refine TD.split 28 rfl (fun hg28 => ?_) (fun hg28 => ?_)
        · try dsimp only at hg28
          refine TD.passG rfl rfl rfl rfl ?_
          refine TD.passG rfl rfl rfl rfl ?_
          refine TD.passG rfl rfl rfl rfl ?_
          refine TD.run1 (pure_pick_true rfl rfl) rfl ?_
          refine TD.run1 (pure_move rfl) rfl ?_
          refine TD.passG rfl rfl rfl rfl ?_
          refine TD.passG rfl rfl rfl rfl ?_
          refine TD.passG rfl rfl rfl rfl ?_
          refine TD.passG rfl rfl rfl rfl ?_
          refine TD.passG rfl rfl rfl rfl ?_
          refine TD.run1 (pure_pick_true rfl rfl) rfl ?_
          refine TD.run1 (pure_move rfl) rfl ?_
          refine TD.passG rfl rfl rfl rfl ?_
          refine TD.passG rfl rfl rfl rfl ?_
          refine TD.passG rfl rfl rfl rfl ?_
          refine TD.passG rfl rfl rfl rfl ?_
          refine TD.passG rfl rfl rfl rfl ?_
          refine TD.run1 (pure_pick_true rfl rfl) rfl ?_
          refine TD.cutEnd (by repeat (first | exact Same.refl _ _ | refine Same.put rfl ?_)) rfl ?_
          first | (simp only [InsideA, decide_eq_true_eq, Bool.false_eq_true, false_iff, true_iff, iff_true, iff_false, Bool.not_eq_true, Decidable.not_not]; omega) | grind [InsideA]
        · try dsimp only at hg28
          first | refine TD.runG rfl rfl (pure_fieldAddr Ty.f38_1 rfl (.succ (.zero _)) (List.cons_ne_nil _ _)) rfl ?_ | refine TD.runG rfl rfl (pure_fieldAddr_own Ty.f38_1 rfl) rfl ?_
          first | refine TD.runG rfl rfl (pure_load1 Ty.one3 rfl) rfl ?_ | refine TD.runG rfl rfl (pure_load1_own Ty.one3 rfl (by repeat (first | exact List.Mem.head _ | apply List.Mem.tail)) (by repeat (first | exact DropR.zero _ | apply DropR.succ))) rfl ?_
          refine TD.runG rfl rfl (pure_lss rfl rfl) rfl ?_
          refine TD.run1 (pure_pick_false rfl rfl) rfl ?_
          refine TD.run1 (pure_move rfl) rfl ?_
          first | refine TD.splitP 33 rfl (fun hg33 => ?_) (fun hg33 => ?_) | refine TD.split 33 rfl (fun hg33 => ?_) (fun hg33 => ?_)
          · try dsimp only at hg33
            refine TD.passG rfl rfl rfl rfl ?_
            refine TD.passG rfl rfl rfl rfl ?_
            refine TD.passG rfl rfl rfl rfl ?_
            refine TD.passG rfl rfl rfl rfl ?_
            refine TD.passG rfl rfl rfl rfl ?_
            refine TD.run1 (pure_pick_true rfl rfl) rfl ?_
            refine TD.run1 (pure_move rfl) rfl ?_
            refine TD.passG rfl rfl rfl rfl ?_
            refine TD.passG rfl rfl rfl rfl ?_
            refine TD.passG rfl rfl rfl rfl ?_
            refine TD.passG rfl rfl rfl rfl ?_
            refine TD.passG rfl rfl rfl rfl ?_
            refine TD.run1 (pure_pick_true rfl rfl) rfl ?_
            refine TD.cutEnd (by repeat (first | exact Same.refl _ _ | refine Same.put rfl ?_)) rfl ?_
            first | (simp only [InsideA, decide_eq_true_eq, Bool.false_eq_true, false_iff, true_iff, iff_true, iff_false, Bool.not_eq_true, Decidable.not_not]; omega) | grind [InsideA]
          · try dsimp only at hg33
            first | refine TD.runG rfl rfl (pure_fieldAddr Ty.f38_1 rfl (.succ (.zero _)) (List.cons_ne_nil _ _)) rfl ?_ | refine TD.runG rfl rfl (pure_fieldAddr_own Ty.f38_1 rfl) rfl ?_
            first | refine TD.runG rfl rfl (pure_load1 Ty.one3 rfl) rfl ?_ | refine TD.runG rfl rfl (pure_load1_own Ty.one3 rfl (by repeat (first | exact List.Mem.head _ | apply List.Mem.tail)) (by repeat (first | exact DropR.zero _ | apply DropR.succ))) rfl ?_
            first | refine TD.runG rfl rfl (pure_fieldAddr Ty.f38_3 rfl (.succ (.succ (.succ (.zero _)))) (List.cons_ne_nil _ _)) rfl ?_ | refine TD.runG rfl rfl (pure_fieldAddr_own Ty.f38_3 rfl) rfl ?_
            first | refine TD.runG rfl rfl (pure_load1 Ty.one3 rfl) rfl ?_ | refine TD.runG rfl rfl (pure_load1_own Ty.one3 rfl (by repeat (first | exact List.Mem.head _ | apply List.Mem.tail)) (by repeat (first | exact DropR.zero _ | apply DropR.succ))) rfl ?_
            refine TD.runG rfl rfl (pure_geq rfl rfl) rfl ?_
            refine TD.run1 (pure_pick_false rfl rfl) rfl ?_
            refine TD.run1 (pure_move rfl) rfl ?_
            first | refine TD.splitP 40 rfl (fun hg40 => ?_) (fun hg40 => ?_) | refine TD.split 40 rfl (fun hg40 => ?_) (fun hg40 => ?_)
            · try dsimp only at hg40
              refine TD.passG rfl rfl rfl rfl ?_
              refine TD.passG rfl rfl rfl rfl ?_
              refine TD.passG rfl rfl rfl rfl ?_
              refine TD.passG rfl rfl rfl rfl ?_
              refine TD.passG rfl rfl rfl rfl ?_
              refine TD.run1 (pure_pick_true rfl rfl) rfl ?_
              refine TD.cutEnd (by repeat (first | exact Same.refl _ _ | refine Same.put rfl ?_)) rfl ?_
              first | (simp only [InsideA, decide_eq_true_eq, Bool.false_eq_true, false_iff, true_iff, iff_true, iff_false, Bool.not_eq_true, Decidable.not_not]; omega) | grind [InsideA]
            · try dsimp only at hg40
              first | refine TD.runG rfl rfl (pure_fieldAddr Ty.f38_3 rfl (.succ (.succ (.succ (.zero _)))) (List.cons_ne_nil _ _)) rfl ?_ | refine TD.runG rfl rfl (pure_fieldAddr_own Ty.f38_3 rfl) rfl ?_
              first | refine TD.runG rfl rfl (pure_load1 Ty.one3 rfl) rfl ?_ | refine TD.runG rfl rfl (pure_load1_own Ty.one3 rfl (by repeat (first | exact List.Mem.head _ | apply List.Mem.tail)) (by repeat (first | exact DropR.zero _ | apply DropR.succ))) rfl ?_
              refine TD.runG rfl rfl (pure_move rfl) rfl ?_
              refine TD.runG rfl rfl (pure_call (Columns_spec _ hr) (.cons rfl .nil) Try.call17) rfl ?_
              refine TD.runG rfl rfl (pure_gtr rfl rfl) rfl ?_
              refine TD.run1 (pure_pick_false rfl rfl) rfl ?_
              refine TD.cutEnd (by repeat (first | exact Same.refl _ _ | refine Same.put rfl ?_)) rfl ?_
              first | (simp only [InsideA, decide_eq_true_eq, Bool.false_eq_true, false_iff, true_iff, iff_true, iff_false, Bool.not_eq_true, Decidable.not_not]; omega) | grind [InsideA]
  first | refine TC.condD rfl (fun hc46 => ?_) (fun hc46 => ?_) | refine TC.condN rfl (fun hc46 => ?_) (fun hc46 => ?_) | refine TC.cond rfl (fun hc46 => ?_) (fun hc46 => ?_)
  · try dsimp only at hc46
    refine TC.seq ?_
    refine TC.region ?_
    refine TL.run1 (pure_build Ty.pl38 Ty.zero38 (.nil _)) rfl ?_
    refine TL.store rfl rfl (.agg _) Try.sizeOf38 rfl (by repeat (first | exact UpdR.here _ | apply UpdR.there)) (by repeat (first | exact PutR.nil _ | apply PutR.here | apply PutR.skip)) ?_
    refine TL.run1 (pure_assign rfl) rfl ?_
    refine TL.nil' ?_
    refine TC.ret ?_
    refine then_ret ?_
    exact ret_cell_tmp (.inl rfl) Ty.agg38 rfl (by repeat (first | exact List.Mem.head _ | apply List.Mem.tail)) rfl rfl (by unfold covV covE; rw [if_neg hc46, if_neg hc46]; rfl)
  · try dsimp only at hc46
    have hin : InsideA rs x := Decidable.not_not.1 hc46
    refine TC.skip' ?_
    refine TC.seq ?_
    refine TC.region ?_
    refine TL.run1 (pure_move rfl) rfl ?_
    refine TL.run1 (pure_call (Rects_spec rs hr.1 hl) (.cons rfl .nil) Try.call14) rfl ?_
    refine TL.run1 (pure_assign rfl) rfl ?_
    refine TL.nil' ?_
    refine TC.seq ?_
    refine TC.seq ?_
    refine TC.region ?_
    refine TL.run1 (pure_build Ty.pl38 Ty.zero38 (.nil _)) rfl ?_
    refine TL.alloc Ty.zero38 rfl (fun g7 => ?_)
    refine TL.store rfl rfl (.agg _) Try.sizeOf38 rfl (by repeat (first | exact UpdR.here _ | apply UpdR.there)) (by repeat (first | exact PutR.nil _ | apply PutR.here | apply PutR.skip)) ?_
    refine TL.nil' ?_
    refine TC.block ?_
    refine TC.loopX (X := A4 × A4 × Nat) (fun (bf, a, gb) => [(3, .v (.pointer (some ⟨g3, 0, none⟩))), (4, .v (.pointer (some ⟨g4, 0, none⟩))), (5, .v (.int .i64 0)), (6, .sl 6 (encQs (layRects rs))), (7, .v (.pointer (some ⟨gb, 0, none⟩)))]) (fun (bf, a, gb) => [.box gb 38 (encA bf), .box g4 38 (encA a0), .box g3 38 (encA a)]) (fun (bf, a, gb) => (LeA x a) ∧ (∀ d, LeA x d → ClosedA (layRects rs) d → LeA a d) ∧ (InA rs.length a) ∧ (bf = a → passN (layRects rs) a = a)) (fun (bf, a, gb) => 2 * muA rs.length a + (if bf = a then 0 else 1)) (a0, x, g7) ⟨by skip; repeat (first | exact Agree.nil | refine Agree.cons rfl ?_), by skip; repeat (first | exact List.nil_sublist _ | exact List.Sublist.refl _ | apply List.Sublist.cons_cons | apply List.Sublist.cons)⟩ ?_ ?_
    · skip
      exact ⟨LeA.refl x, fun d h _ => h, hin.inA, fun h => (by rw [← h] at hin; unfold InsideA a0 at hin; simp only at hin; omega)⟩
    rintro ⟨bf, a, gb⟩
    rintro ⟨h0, h1, h2, h3⟩
    show TC _ _ _ (Env.of [(3, .v (.pointer (some ⟨g3, 0, none⟩))), (4, .v (.pointer (some ⟨g4, 0, none⟩))), (5, .v (.int .i64 0)), (6, .sl 6 (encQs (layRects rs))), (7, .v (.pointer (some ⟨gb, 0, none⟩)))]) [.box gb 38 (encA bf), .box g4 38 (encA a0), .box g3 38 (encA a)]
    have hqk := encQs_len (layRects rs)
    refine TC.seq ?_
    refine TC.regionCut [51, 52, 53] 53 (bf ≠ a) ?_ ?_
    · skip
      first | refine TL.run1 (pure_load Ty.agg38 rfl (.succ (.succ (.succ (.succ (.zero _)))))) rfl ?_ | refine TL.run1 (pure_load_own Ty.agg38 rfl (by repeat (first | exact List.Mem.head _ | apply List.Mem.tail)) (by repeat (first | exact DropR.zero _ | apply DropR.succ)) (.succ (.succ (.succ (.succ (.zero _)))))) rfl ?_
      first | refine TL.run1 (pure_load Ty.agg38 rfl (.succ (.succ (.succ (.succ (.zero _)))))) rfl ?_ | refine TL.run1 (pure_load_own Ty.agg38 rfl (by repeat (first | exact List.Mem.head _ | apply List.Mem.tail)) (by repeat (first | exact DropR.zero _ | apply DropR.succ)) (.succ (.succ (.succ (.succ (.zero _)))))) rfl ?_
      refine TL.run1 (pure_neq_agg Ty.eq38 rfl rfl (.cons (.cons (.cons (.cons .nil)))) (.cons (.cons (.cons (.cons .nil)))) rfl rfl) rfl ?_
      refine TL.cutEnd (by repeat (first | exact Same.refl _ _ | refine Same.put rfl ?_)) rfl ?_
      cases bf; cases a; simp only [ne_eq, A4.mk.injEq]; grind
    first | refine TC.condD rfl (fun hc53 => ?_) (fun hc53 => ?_) | refine TC.condN rfl (fun hc53 => ?_) (fun hc53 => ?_) | refine TC.cond rfl (fun hc53 => ?_) (fun hc53 => ?_)
    · try dsimp only at hc53
      refine TC.skip' ?_
      refine TC.seq ?_
      refine TC.block ?_
      refine TC.seq ?_
      refine TC.region ?_
      first | refine TL.run1 (pure_load Ty.agg38 rfl (.succ (.succ (.succ (.succ (.zero _)))))) rfl ?_ | refine TL.run1 (pure_load_own Ty.agg38 rfl (by repeat (first | exact List.Mem.head _ | apply List.Mem.tail)) (by repeat (first | exact DropR.zero _ | apply DropR.succ)) (.succ (.succ (.succ (.succ (.zero _)))))) rfl ?_
      refine TL.store rfl rfl (.agg _) Try.sizeOf38 rfl (by repeat (first | exact UpdR.here _ | apply UpdR.there)) (by repeat (first | exact PutR.nil _ | apply PutR.here | apply PutR.skip)) ?_
      refine TL.nil' ?_
      refine TC.seq ?_
      refine TC.region ?_
      refine TL.run1 (pure_move rfl) rfl ?_
      first | refine TL.run1 (pure_len Ty.sl25 rfl) rfl ?_ | refine TL.run1 (pure_len_row Ty.sl25 rfl (by repeat (first | exact List.Mem.head _ | apply List.Mem.tail))) rfl ?_ | refine TL.run1 (pure_len_nil Ty.sl25 rfl) rfl ?_
      refine TL.run1 (pure_move rfl) rfl ?_
      refine TL.nil' ?_
      refine TC.block ?_
      refine TC.loopX (X := Int) (fun k => [(3, .v (.pointer (some ⟨g3, 0, none⟩))), (4, .v (.pointer (some ⟨g4, 0, none⟩))), (5, .v (.int .i64 0)), (6, .sl 6 (encQs (layRects rs))), (7, .v (.pointer (some ⟨gb, 0, none⟩))), (55, .sl 6 (encQs (layRects rs))), (56, .v (.int .i64 (layRects rs).length)), (57, .v (.int .i64 k))]) (fun k => [.box gb 38 (encA a), .box g4 38 (encA a0), .box g3 38 (encA (passTo (layRects rs) a k.toNat))]) (fun k => (0 ≤ k) ∧ (k ≤ (layRects rs).length)) (fun k => ((layRects rs).length - k).toNat) (0) ⟨by rw [encQs_len]; repeat (first | exact Agree.nil | refine Agree.cons rfl ?_), by skip; repeat (first | exact List.nil_sublist _ | exact List.Sublist.refl _ | apply List.Sublist.cons_cons | apply List.Sublist.cons)⟩ ?_ ?_
      · skip
        exact ⟨by omega, by omega⟩
      intro k
      rintro ⟨k0, k1⟩
      show TC _ _ _ (Env.of [(3, .v (.pointer (some ⟨g3, 0, none⟩))), (4, .v (.pointer (some ⟨g4, 0, none⟩))), (5, .v (.int .i64 0)), (6, .sl 6 (encQs (layRects rs))), (7, .v (.pointer (some ⟨gb, 0, none⟩))), (55, .sl 6 (encQs (layRects rs))), (56, .v (.int .i64 (layRects rs).length)), (57, .v (.int .i64 k))]) [.box gb 38 (encA a), .box g4 38 (encA a0), .box g3 38 (encA (passTo (layRects rs) a k.toNat))]
      refine TC.seq ?_
      refine TC.region ?_
      refine TL.run1 (pure_lss rfl rfl) rfl ?_
      refine TL.nil' ?_
      refine TC.seq ?_
      first | refine TC.condD rfl (fun hc58 => ?_) (fun hc58 => ?_) | refine TC.condN rfl (fun hc58 => ?_) (fun hc58 => ?_) | refine TC.cond rfl (fun hc58 => ?_) (fun hc58 => ?_)
      · try dsimp only at hc58
        refine TC.skip' ?_
        refine TC.seq ?_
        refine TC.block ?_
        refine TC.seq ?_
        have hcell := encQs_get (layRects rs) k k0 (by omega)
        refine TC.region ?_
        refine TL.run1 (pure_indexAddr Ty.sl25 rfl rfl (by omega) (by assumption) (List.cons_ne_nil _ _)) rfl ?_
        first | refine TL.run1 (pure_load Ty.agg40 rfl (.succ (.succ (.succ (.succ (.succ (.succ (.zero _)))))))) rfl ?_ | refine TL.run1 (pure_load_own Ty.agg40 rfl (by repeat (first | exact List.Mem.head _ | apply List.Mem.tail)) (by repeat (first | exact DropR.zero _ | apply DropR.succ)) (.succ (.succ (.succ (.succ (.succ (.succ (.zero _)))))))) rfl ?_
        refine TL.alloc Ty.zero40 rfl (fun g9 => ?_)
        refine TL.store rfl rfl (.agg _) Try.sizeOf40 rfl (by repeat (first | exact UpdR.here _ | apply UpdR.there)) (by repeat (first | exact PutR.nil _ | apply PutR.here | apply PutR.skip)) ?_
        refine TL.nil' ?_
        refine TC.seq ?_
        refine TC.region ?_
        first | refine TL.run1 (pure_fieldAddr Ty.f40_2 rfl (.succ (.succ (.zero _))) (List.cons_ne_nil _ _)) rfl ?_ | refine TL.run1 (pure_fieldAddr_own Ty.f40_2 rfl) rfl ?_
        first | refine TL.run1 (pure_load Ty.agg38 rfl (.succ (.succ (.succ (.succ (.zero _)))))) rfl ?_ | refine TL.run1 (pure_load_own Ty.agg38 rfl (by repeat (first | exact List.Mem.head _ | apply List.Mem.tail)) (by repeat (first | exact DropR.zero _ | apply DropR.succ)) (.succ (.succ (.succ (.succ (.zero _)))))) rfl ?_
        refine TL.alloc Ty.zero38 rfl (fun g10 => ?_)
        refine TL.store rfl rfl (.agg _) Try.sizeOf38 rfl (by repeat (first | exact UpdR.here _ | apply UpdR.there)) (by repeat (first | exact PutR.nil _ | apply PutR.here | apply PutR.skip)) ?_
        refine TL.nil' ?_
        refine TC.regionCut [63, 64, 65, 66, 67, 68, 69, 70, 71, 72, 73, 74, 75, 76, 77, 78, 79, 80, 81, 82, 83, 84, 85, 86, 87, 88] 88 (MeetQ (qAt (layRects rs) k) (passTo (layRects rs) a k.toNat)) ?_ ?_
        · skip
          first | refine TL.run1 (pure_fieldAddr Ty.f38_0 rfl (.zero _) (List.cons_ne_nil _ _)) rfl ?_ | refine TL.run1 (pure_fieldAddr_own Ty.f38_0 rfl) rfl ?_
          first | refine TL.run1 (pure_load1 Ty.one3 rfl) rfl ?_ | refine TL.run1 (pure_load1_own Ty.one3 rfl (by repeat (first | exact List.Mem.head _ | apply List.Mem.tail)) (by repeat (first | exact DropR.zero _ | apply DropR.succ))) rfl ?_
          first | refine TL.run1 (pure_fieldAddr Ty.f38_2 rfl (.succ (.succ (.zero _))) (List.cons_ne_nil _ _)) rfl ?_ | refine TL.run1 (pure_fieldAddr_own Ty.f38_2 rfl) rfl ?_
          first | refine TL.run1 (pure_load1 Ty.one3 rfl) rfl ?_ | refine TL.run1 (pure_load1_own Ty.one3 rfl (by repeat (first | exact List.Mem.head _ | apply List.Mem.tail)) (by repeat (first | exact DropR.zero _ | apply DropR.succ))) rfl ?_
          refine TL.run1 (pure_lss rfl rfl) rfl ?_
          refine TL.run1 (pure_move rfl) rfl ?_
          first | refine TL.splitP 68 rfl (fun hg68 => ?_) (fun hg68 => ?_) | refine TL.split 68 rfl (fun hg68 => ?_) (fun hg68 => ?_)
          · try dsimp only at hg68
            first | refine TL.runG rfl rfl (pure_fieldAddr Ty.f38_0 rfl (.zero _) (List.cons_ne_nil _ _)) rfl ?_ | refine TL.runG rfl rfl (pure_fieldAddr_own Ty.f38_0 rfl) rfl ?_
            first | refine TL.runG rfl rfl (pure_load1 Ty.one3 rfl) rfl ?_ | refine TL.runG rfl rfl (pure_load1_own Ty.one3 rfl (by repeat (first | exact List.Mem.head _ | apply List.Mem.tail)) (by repeat (first | exact DropR.zero _ | apply DropR.succ))) rfl ?_
            first | refine TL.runG rfl rfl (pure_fieldAddr Ty.f38_2 rfl (.succ (.succ (.zero _))) (List.cons_ne_nil _ _)) rfl ?_ | refine TL.runG rfl rfl (pure_fieldAddr_own Ty.f38_2 rfl) rfl ?_
            first | refine TL.runG rfl rfl (pure_load1 Ty.one3 rfl) rfl ?_ | refine TL.runG rfl rfl (pure_load1_own Ty.one3 rfl (by repeat (first | exact List.Mem.head _ | apply List.Mem.tail)) (by repeat (first | exact DropR.zero _ | apply DropR.succ))) rfl ?_
            refine TL.runG rfl rfl (pure_lss rfl rfl) rfl ?_
            refine TL.run1 (pure_pick_true rfl rfl) rfl ?_
            refine TL.run1 (pure_move rfl) rfl ?_
            first | refine TL.splitP 75 rfl (fun hg75 => ?_) (fun hg75 => ?_) | refine TL.split 75 rfl (fun hg75 => ?_) (fun hg75 => ?_)
            · try dsimp only at hg75
              first | refine TL.runG rfl rfl (pure_fieldAddr Ty.f38_1 rfl (.succ (.zero _)) (List.cons_ne_nil _ _)) rfl ?_ | refine TL.runG rfl rfl (pure_fieldAddr_own Ty.f38_1 rfl) rfl ?_
              first | refine TL.runG rfl rfl (pure_load1 Ty.one3 rfl) rfl ?_ | refine TL.runG rfl rfl (pure_load1_own Ty.one3 rfl (by repeat (first | exact List.Mem.head _ | apply List.Mem.tail)) (by repeat (first | exact DropR.zero _ | apply DropR.succ))) rfl ?_
              first | refine TL.runG rfl rfl (pure_fieldAddr Ty.f38_3 rfl (.succ (.succ (.succ (.zero _)))) (List.cons_ne_nil _ _)) rfl ?_ | refine TL.runG rfl rfl (pure_fieldAddr_own Ty.f38_3 rfl) rfl ?_
              first | refine TL.runG rfl rfl (pure_load1 Ty.one3 rfl) rfl ?_ | refine TL.runG rfl rfl (pure_load1_own Ty.one3 rfl (by repeat (first | exact List.Mem.head _ | apply List.Mem.tail)) (by repeat (first | exact DropR.zero _ | apply DropR.succ))) rfl ?_
              refine TL.runG rfl rfl (pure_lss rfl rfl) rfl ?_
              refine TL.run1 (pure_pick_true rfl rfl) rfl ?_
              refine TL.run1 (pure_move rfl) rfl ?_
              first | refine TL.splitP 82 rfl (fun hg82 => ?_) (fun hg82 => ?_) | refine TL.split 82 rfl (fun hg82 => ?_) (fun hg82 => ?_)
              · try dsimp only at hg82
                first | refine TL.runG rfl rfl (pure_fieldAddr Ty.f38_1 rfl (.succ (.zero _)) (List.cons_ne_nil _ _)) rfl ?_ | refine TL.runG rfl rfl (pure_fieldAddr_own Ty.f38_1 rfl) rfl ?_
                first | refine TL.runG rfl rfl (pure_load1 Ty.one3 rfl) rfl ?_ | refine TL.runG rfl rfl (pure_load1_own Ty.one3 rfl (by repeat (first | exact List.Mem.head _ | apply List.Mem.tail)) (by repeat (first | exact DropR.zero _ | apply DropR.succ))) rfl ?_
                first | refine TL.runG rfl rfl (pure_fieldAddr Ty.f38_3 rfl (.succ (.succ (.succ (.zero _)))) (List.cons_ne_nil _ _)) rfl ?_ | refine TL.runG rfl rfl (pure_fieldAddr_own Ty.f38_3 rfl) rfl ?_
                first | refine TL.runG rfl rfl (pure_load1 Ty.one3 rfl) rfl ?_ | refine TL.runG rfl rfl (pure_load1_own Ty.one3 rfl (by repeat (first | exact List.Mem.head _ | apply List.Mem.tail)) (by repeat (first | exact DropR.zero _ | apply DropR.succ))) rfl ?_
                refine TL.runG rfl rfl (pure_lss rfl rfl) rfl ?_
                refine TL.run1 (pure_pick_true rfl rfl) rfl ?_
                refine TL.cutEnd (by repeat (first | exact Same.refl _ _ | refine Same.put rfl ?_)) rfl ?_
                first | (simp only [MeetQ, decide_eq_true_eq, Bool.false_eq_true, false_iff, true_iff, iff_true, iff_false, Bool.not_eq_true]; omega) | grind [MeetQ]
              · try dsimp only at hg82
                refine TL.passG rfl rfl rfl rfl ?_
                refine TL.passG rfl rfl rfl rfl ?_
                refine TL.passG rfl rfl rfl rfl ?_
                refine TL.passG rfl rfl rfl rfl ?_
                refine TL.passG rfl rfl rfl rfl ?_
                refine TL.run1 (pure_pick_false rfl rfl) rfl ?_
                refine TL.cutEnd (by repeat (first | exact Same.refl _ _ | refine Same.put rfl ?_)) rfl ?_
                first | (simp only [MeetQ, decide_eq_true_eq, Bool.false_eq_true, false_iff, true_iff, iff_true, iff_false, Bool.not_eq_true]; omega) | grind [MeetQ]
            · try dsimp only at hg75
              refine TL.passG rfl rfl rfl rfl ?_
              refine TL.passG rfl rfl rfl rfl ?_
              refine TL.passG rfl rfl rfl rfl ?_
              refine TL.passG rfl rfl rfl rfl ?_
              refine TL.passG rfl rfl rfl rfl ?_
              refine TL.run1 (pure_pick_false rfl rfl) rfl ?_
              refine TL.run1 (pure_move rfl) rfl ?_
              refine TL.passG rfl rfl rfl rfl ?_
              refine TL.passG rfl rfl rfl rfl ?_
              refine TL.passG rfl rfl rfl rfl ?_
              refine TL.passG rfl rfl rfl rfl ?_
              refine TL.passG rfl rfl rfl rfl ?_
              refine TL.run1 (pure_pick_false rfl rfl) rfl ?_
              refine TL.cutEnd (by repeat (first | exact Same.refl _ _ | refine Same.put rfl ?_)) rfl ?_
              first | (simp only [MeetQ, decide_eq_true_eq, Bool.false_eq_true, false_iff, true_iff, iff_true, iff_false, Bool.not_eq_true]; omega) | grind [MeetQ]
          · try dsimp only at hg68
            refine TL.passG rfl rfl rfl rfl ?_
            refine TL.passG rfl rfl rfl rfl ?_
            refine TL.passG rfl rfl rfl rfl ?_
            refine TL.passG rfl rfl rfl rfl ?_
            refine TL.passG rfl rfl rfl rfl ?_
            refine TL.run1 (pure_pick_false rfl rfl) rfl ?_
            refine TL.run1 (pure_move rfl) rfl ?_
            refine TL.passG rfl rfl rfl rfl ?_
            refine TL.passG rfl rfl rfl rfl ?_
            refine TL.passG rfl rfl rfl rfl ?_
            refine TL.passG rfl rfl rfl rfl ?_
            refine TL.passG rfl rfl rfl rfl ?_
            refine TL.run1 (pure_pick_false rfl rfl) rfl ?_
            refine TL.run1 (pure_move rfl) rfl ?_
            refine TL.passG rfl rfl rfl rfl ?_
            refine TL.passG rfl rfl rfl rfl ?_
            refine TL.passG rfl rfl rfl rfl ?_
            refine TL.passG rfl rfl rfl rfl ?_
            refine TL.passG rfl rfl rfl rfl ?_
            refine TL.run1 (pure_pick_false rfl rfl) rfl ?_
            refine TL.cutEnd (by repeat (first | exact Same.refl _ _ | refine Same.put rfl ?_)) rfl ?_
            first | (simp only [MeetQ, decide_eq_true_eq, Bool.false_eq_true, false_iff, true_iff, iff_true, iff_false, Bool.not_eq_true]; omega) | grind [MeetQ]
        first | refine TC.condD rfl (fun hc88 => ?_) (fun hc88 => ?_) | refine TC.condN rfl (fun hc88 => ?_) (fun hc88 => ?_) | refine TC.cond rfl (fun hc88 => ?_) (fun hc88 => ?_)
        · try dsimp only at hc88
          refine TC.region ?_
          first | refine TL.run1 (pure_fieldAddr Ty.f38_0 rfl (.zero _) (List.cons_ne_nil _ _)) rfl ?_ | refine TL.run1 (pure_fieldAddr_own Ty.f38_0 rfl) rfl ?_
          first | refine TL.run1 (pure_load1 Ty.one3 rfl) rfl ?_ | refine TL.run1 (pure_load1_own Ty.one3 rfl (by repeat (first | exact List.Mem.head _ | apply List.Mem.tail)) (by repeat (first | exact DropR.zero _ | apply DropR.succ))) rfl ?_
          first | refine TL.run1 (pure_fieldAddr Ty.f38_0 rfl (.zero _) (List.cons_ne_nil _ _)) rfl ?_ | refine TL.run1 (pure_fieldAddr_own Ty.f38_0 rfl) rfl ?_
          first | refine TL.run1 (pure_load1 Ty.one3 rfl) rfl ?_ | refine TL.run1 (pure_load1_own Ty.one3 rfl (by repeat (first | exact List.Mem.head _ | apply List.Mem.tail)) (by repeat (first | exact DropR.zero _ | apply DropR.succ))) rfl ?_
          refine TL.run1 (pure_min rfl rfl) rfl ?_
          first | refine TL.run1 (pure_fieldAddr Ty.f38_1 rfl (.succ (.zero _)) (List.cons_ne_nil _ _)) rfl ?_ | refine TL.run1 (pure_fieldAddr_own Ty.f38_1 rfl) rfl ?_
          first | refine TL.run1 (pure_load1 Ty.one3 rfl) rfl ?_ | refine TL.run1 (pure_load1_own Ty.one3 rfl (by repeat (first | exact List.Mem.head _ | apply List.Mem.tail)) (by repeat (first | exact DropR.zero _ | apply DropR.succ))) rfl ?_
          first | refine TL.run1 (pure_fieldAddr Ty.f38_1 rfl (.succ (.zero _)) (List.cons_ne_nil _ _)) rfl ?_ | refine TL.run1 (pure_fieldAddr_own Ty.f38_1 rfl) rfl ?_
          first | refine TL.run1 (pure_load1 Ty.one3 rfl) rfl ?_ | refine TL.run1 (pure_load1_own Ty.one3 rfl (by repeat (first | exact List.Mem.head _ | apply List.Mem.tail)) (by repeat (first | exact DropR.zero _ | apply DropR.succ))) rfl ?_
          refine TL.run1 (pure_min rfl rfl) rfl ?_
          first | refine TL.run1 (pure_fieldAddr Ty.f38_2 rfl (.succ (.succ (.zero _))) (List.cons_ne_nil _ _)) rfl ?_ | refine TL.run1 (pure_fieldAddr_own Ty.f38_2 rfl) rfl ?_
          first | refine TL.run1 (pure_load1 Ty.one3 rfl) rfl ?_ | refine TL.run1 (pure_load1_own Ty.one3 rfl (by repeat (first | exact List.Mem.head _ | apply List.Mem.tail)) (by repeat (first | exact DropR.zero _ | apply DropR.succ))) rfl ?_
          first | refine TL.run1 (pure_fieldAddr Ty.f38_2 rfl (.succ (.succ (.zero _))) (List.cons_ne_nil _ _)) rfl ?_ | refine TL.run1 (pure_fieldAddr_own Ty.f38_2 rfl) rfl ?_
          first | refine TL.run1 (pure_load1 Ty.one3 rfl) rfl ?_ | refine TL.run1 (pure_load1_own Ty.one3 rfl (by repeat (first | exact List.Mem.head _ | apply List.Mem.tail)) (by repeat (first | exact DropR.zero _ | apply DropR.succ))) rfl ?_
          refine TL.run1 (pure_max rfl rfl) rfl ?_
          first | refine TL.run1 (pure_fieldAddr Ty.f38_3 rfl (.succ (.succ (.succ (.zero _)))) (List.cons_ne_nil _ _)) rfl ?_ | refine TL.run1 (pure_fieldAddr_own Ty.f38_3 rfl) rfl ?_
          first | refine TL.run1 (pure_load1 Ty.one3 rfl) rfl ?_ | refine TL.run1 (pure_load1_own Ty.one3 rfl (by repeat (first | exact List.Mem.head _ | apply List.Mem.tail)) (by repeat (first | exact DropR.zero _ | apply DropR.succ))) rfl ?_
          first | refine TL.run1 (pure_fieldAddr Ty.f38_3 rfl (.succ (.succ (.succ (.zero _)))) (List.cons_ne_nil _ _)) rfl ?_ | refine TL.run1 (pure_fieldAddr_own Ty.f38_3 rfl) rfl ?_
          first | refine TL.run1 (pure_load1 Ty.one3 rfl) rfl ?_ | refine TL.run1 (pure_load1_own Ty.one3 rfl (by repeat (first | exact List.Mem.head _ | apply List.Mem.tail)) (by repeat (first | exact DropR.zero _ | apply DropR.succ))) rfl ?_
          refine TL.run1 (pure_max rfl rfl) rfl ?_
          refine TL.run1 (pure_build Ty.pl38 Ty.zero38 (.cons rfl rfl (.one rfl) rfl (.here (.nil _)) (.cons rfl rfl (.one rfl) rfl (.skip (.here (.nil _))) (.cons rfl rfl (.one rfl) rfl (.skip (.skip (.here (.nil _)))) (.cons rfl rfl (.one rfl) rfl (.skip (.skip (.skip (.here (.nil _))))) (.nil _)))))) rfl ?_
          refine TL.store rfl rfl (.agg _) Try.sizeOf38 rfl (by repeat (first | exact UpdR.here _ | apply UpdR.there)) (by repeat (first | exact PutR.nil _ | apply PutR.here | apply PutR.skip)) ?_
          refine TL.nil ?_
          refine block_normal ?_
          refine then_normal ?_
          refine TC.region ?_
          refine TL.run1 (pure_add rfl rfl (mkI64 (by omega) (by omega))) rfl ?_
          refine TL.run1 (pure_move rfl) rfl ?_
          refine TL.nil ?_
          have hps : passTo (layRects rs) a (k + 1).toNat = stepA4 (passTo (layRects rs) a k.toNat) (qAt (layRects rs) k) := by (rw [show (k + 1).toNat = k.toNat + 1 by omega, passTo, show ((k.toNat : Nat) : Int) = k by omega])
          unfold stepA4 at hps
          rw [if_pos hc88] at hps
          refine loop_next (k + 1) ⟨by repeat (first | exact Agree.nil | refine Agree.cons rfl ?_), by rw [hps]; repeat (first | exact List.nil_sublist _ | exact List.Sublist.refl _ | apply List.Sublist.cons_cons | apply List.Sublist.cons)⟩ ⟨by omega, by omega⟩ (by omega)
        · try dsimp only at hc88
          refine TC.skip ?_
          refine block_normal ?_
          refine then_normal ?_
          refine TC.region ?_
          refine TL.run1 (pure_add rfl rfl (mkI64 (by omega) (by omega))) rfl ?_
          refine TL.run1 (pure_move rfl) rfl ?_
          refine TL.nil ?_
          have hps : passTo (layRects rs) a (k + 1).toNat = stepA4 (passTo (layRects rs) a k.toNat) (qAt (layRects rs) k) := by (rw [show (k + 1).toNat = k.toNat + 1 by omega, passTo, show ((k.toNat : Nat) : Int) = k by omega])
          unfold stepA4 at hps
          rw [if_neg hc88] at hps
          refine loop_next (k + 1) ⟨by repeat (first | exact Agree.nil | refine Agree.cons rfl ?_), by rw [hps]; repeat (first | exact List.nil_sublist _ | exact List.Sublist.refl _ | apply List.Sublist.cons_cons | apply List.Sublist.cons)⟩ ⟨by omega, by omega⟩ (by omega)
      · try dsimp only at hc58
        refine TC.exit ?_
        refine then_exit ?_
        refine loop_exit ?_
        refine block_here ?_
        refine block_normal ?_
        refine then_normal ?_
        refine TC.seq ?_
        rw [show k.toNat = (layRects rs).length by omega]
        refine TC.region ?_
        first | refine TL.run1 (pure_load Ty.agg38 rfl (.succ (.succ (.succ (.succ (.zero _)))))) rfl ?_ | refine TL.run1 (pure_load_own Ty.agg38 rfl (by repeat (first | exact List.Mem.head _ | apply List.Mem.tail)) (by repeat (first | exact DropR.zero _ | apply DropR.succ)) (.succ (.succ (.succ (.succ (.zero _)))))) rfl ?_
        refine TL.nil' ?_
        refine TC.region ?_
        refine TL.alloc Ty.zero38 rfl (fun g7 => ?_)
        refine TL.store rfl rfl (.agg _) Try.sizeOf38 rfl (by repeat (first | exact UpdR.here _ | apply UpdR.there)) (by repeat (first | exact PutR.nil _ | apply PutR.here | apply PutR.skip)) ?_
        refine TL.nil ?_
        have hne : bf ≠ a := hc53
        refine loop_next (a, passN (layRects rs) a, g7) ⟨by repeat (first | exact Agree.nil | refine Agree.cons rfl ?_), by repeat (first | exact List.nil_sublist _ | exact List.Sublist.refl _ | apply List.Sublist.cons_cons | apply List.Sublist.cons)⟩ ⟨h0.trans (pass_le _ _), fun d hd hc => passTo_least (h1 d hd hc) hc _ (Nat.le_refl _), pass_in rect_in h2 _ (Nat.le_refl _), fun h => (by rw [← h]; exact h.symm)⟩ ?_
        dsimp only
        rw [if_neg hne]
        by_cases hp : a = passN (layRects rs) a
        · rw [if_pos hp, ← hp]; omega
        · have hm := mu_lt (pass_le (layRects rs) a) hp (pass_in rect_in h2 _ (Nat.le_refl _))
          rw [if_neg hp]
          have : muA rs.length (passN (layRects rs) a) < muA rs.length a := hm
          omega
    · try dsimp only at hc53
      refine TC.exit ?_
      refine then_exit ?_
      refine loop_exit ?_
      refine block_here ?_
      refine then_normal ?_
      refine TC.seq ?_
      have heq : bf = a := Decidable.not_not.1 hc53
      have hcv : covN rs x = a := (covN_cov hin.inA).unique ⟨h0, pass_fix (h3 heq), h1⟩
      refine TC.region ?_
      first | refine TL.run1 (pure_load Ty.agg38 rfl (.succ (.succ (.succ (.succ (.zero _)))))) rfl ?_ | refine TL.run1 (pure_load_own Ty.agg38 rfl (by repeat (first | exact List.Mem.head _ | apply List.Mem.tail)) (by repeat (first | exact DropR.zero _ | apply DropR.succ)) (.succ (.succ (.succ (.succ (.zero _)))))) rfl ?_
      refine TL.store rfl rfl (.agg _) Try.sizeOf38 rfl (by repeat (first | exact UpdR.here _ | apply UpdR.there)) (by repeat (first | exact PutR.nil _ | apply PutR.here | apply PutR.skip)) ?_
      refine TL.run1 (pure_assign rfl) rfl ?_
      refine TL.nil' ?_
      refine TC.ret ?_
      exact ret_cell_tmp (.inl rfl) Ty.agg38 rfl (by repeat (first | exact List.Mem.head _ | apply List.Mem.tail)) rfl rfl (by unfold covV covE; rw [if_pos hin, if_pos hin, hcv]; rfl)
set_option maxRecDepth 100000 in
theorem RCover_spec (rs : List RowD) (hr : TabOk rs) (x : A4) (hin : InsideA rs x) : Fun Try.prog 41 [.sl 6 (encRs rs), .v (.int .i64 x.t), .v (.int .i64 x.l), .v (.int .i64 x.b), .v (.int .i64 x.r)] (.tup [.v (.int .i64 (covN rs x).t), .v (.int .i64 (covN rs x).l), .v (.int .i64 (covN rs x).b), .v (.int .i64 (covN rs x).r)]) := by
  have hrl0 := hr.2
  refine Fun.enter (n := 103) (rs := [.tmp 10, .tmp 11, .tmp 12, .tmp 13]) Try.func41 rfl Try.ntmps41 Try.results41 rfl (fun w F => ?_)
  have hk := encRs_len rs
  refine TC.seq ?_
  refine TC.region ?_
  refine TL.run1 (pure_assign rfl) rfl ?_
  refine TL.run1 (pure_assign rfl) rfl ?_
  refine TL.run1 (pure_assign rfl) rfl ?_
  refine TL.run1 (pure_assign rfl) rfl ?_
  refine TL.nil' ?_
  refine TC.seq ?_
  refine TC.seq ?_
  refine TC.region ?_
  refine TL.run1 (pure_assign rfl) rfl ?_
  refine TL.nil' ?_
  refine TC.block ?_
  refine TC.loopX (X := Bool × A4) (fun (ch, a) => [(0, .sl 6 (encRs rs)), (1, .v (.int .i64 a.t)), (2, .v (.int .i64 a.l)), (3, .v (.int .i64 a.b)), (4, .v (.int .i64 a.r)), (14, .v (.bool ch))]) (fun (ch, a) => []) (fun (ch, a) => (LeA x a) ∧ (∀ d, LeA x d → ClosedA (layRects rs) d → LeA a d) ∧ (InA rs.length a) ∧ (ch = false → ∀ j : Int, a.t ≤ j → j < a.b → FineR rs a j (ncN rs j))) (fun (ch, a) => 2 * muA rs.length a + (if ch = true then 1 else 0)) (true, x) ⟨by skip; repeat (first | exact Agree.nil | refine Agree.cons rfl ?_), by skip; repeat (first | exact List.nil_sublist _ | exact List.Sublist.refl _ | apply List.Sublist.cons_cons | apply List.Sublist.cons)⟩ ?_ ?_
  · skip
    exact ⟨LeA.refl x, fun d h _ => h, hin.inA, fun h => (by cases h)⟩
  rintro ⟨ch, a⟩
  rintro ⟨h0, h1, h2, h3⟩
  show TC _ _ _ (Env.of [(0, .sl 6 (encRs rs)), (1, .v (.int .i64 a.t)), (2, .v (.int .i64 a.l)), (3, .v (.int .i64 a.b)), (4, .v (.int .i64 a.r)), (14, .v (.bool ch))]) []
  have hab : a.t < a.b := by unfold LeA InsideA at *; omega
  refine TC.seq ?_
  refine TC.seq ?_
  refine TC.region ?_
  refine TL.run1 (pure_move rfl) rfl ?_
  refine TL.nil' ?_
  first | refine TC.condD rfl (fun hc22 => ?_) (fun hc22 => ?_) | refine TC.condN rfl (fun hc22 => ?_) (fun hc22 => ?_) | refine TC.cond rfl (fun hc22 => ?_) (fun hc22 => ?_)
  · try dsimp only at hc22
    refine TC.skip' ?_
    refine TC.block ?_
    refine TC.seq ?_
    refine TC.region ?_
    refine TL.run1 (pure_assign rfl) rfl ?_
    refine TL.nil' ?_
    refine TC.seq ?_
    refine TC.region ?_
    refine TL.run1 (pure_move rfl) rfl ?_
    refine TL.run1 (pure_assign rfl) rfl ?_
    refine TL.nil' ?_
    refine TC.block ?_
    refine TC.loopX (X := Int × Bool × A4) (fun (i, ch2, c) => [(0, .sl 6 (encRs rs)), (1, .v (.int .i64 c.t)), (2, .v (.int .i64 c.l)), (3, .v (.int .i64 c.b)), (4, .v (.int .i64 c.r)), (14, .v (.bool ch2)), (15, .v (.int .i64 i))]) (fun (i, ch2, c) => []) (fun (i, ch2, c) => (LeA x c) ∧ (∀ d, LeA x d → ClosedA (layRects rs) d → LeA c d) ∧ (InA rs.length c) ∧ (c.t ≤ i) ∧ (LeA a c) ∧ (ch2 = false → c = a ∧ ∀ j : Int, c.t ≤ j → j < i → FineR rs c j (ncN rs j)) ∧ (ch2 = true → a ≠ c) ∧ (i ≤ rs.length)) (fun (i, ch2, c) => (rs.length - i).toNat) (a.t, false, a) ⟨by skip; repeat (first | exact Agree.nil | refine Agree.cons rfl ?_), by skip; repeat (first | exact List.nil_sublist _ | exact List.Sublist.refl _ | apply List.Sublist.cons_cons | apply List.Sublist.cons)⟩ ?_ ?_
    · skip
      exact ⟨h0, h1, h2, Int.le_refl _, LeA.refl a, fun _ => ⟨rfl, fun j p q => by omega⟩, fun h => (by cases h), by unfold InA at h2; omega⟩
    rintro ⟨i, ch2, c⟩
    rintro ⟨l0, l1, l2, l3, l4, l5, l6, l7⟩
    show TC _ _ _ (Env.of [(0, .sl 6 (encRs rs)), (1, .v (.int .i64 c.t)), (2, .v (.int .i64 c.l)), (3, .v (.int .i64 c.b)), (4, .v (.int .i64 c.r)), (14, .v (.bool ch2)), (15, .v (.int .i64 i))]) []
    refine TC.seq ?_
    refine TC.seq ?_
    refine TC.region ?_
    refine TL.run1 (pure_move rfl) rfl ?_
    refine TL.run1 (pure_move rfl) rfl ?_
    refine TL.run1 (pure_lss rfl rfl) rfl ?_
    refine TL.nil' ?_
    first | refine TC.condD rfl (fun hc26 => ?_) (fun hc26 => ?_) | refine TC.condN rfl (fun hc26 => ?_) (fun hc26 => ?_) | refine TC.cond rfl (fun hc26 => ?_) (fun hc26 => ?_)
    · try dsimp only at hc26
      refine TC.skip' ?_
      refine TC.seq ?_
      refine TC.block ?_
      refine TC.seq ?_
      have hi0 : 0 ≤ i := by unfold InA at l2; omega
      have hi1 : i < rs.length := by unfold InA at l2; omega
      have hrow := encRs_get rs i (by omega) (by omega)
      have hro := hr.1 _ (rAt_mem rs i (by omega) (by omega))
      have hrl := hro.2.1
      have hck := encCs_len (rAt rs i).cells
      refine TC.region ?_
      refine TL.run1 (pure_assign rfl) rfl ?_
      refine TL.nil' ?_
      refine TC.block ?_
      refine TC.loopX (X := Int × Bool × A4) (fun (k, ch3, e) => [(0, .sl 6 (encRs rs)), (1, .v (.int .i64 e.t)), (2, .v (.int .i64 e.l)), (3, .v (.int .i64 e.b)), (4, .v (.int .i64 e.r)), (14, .v (.bool ch3)), (15, .v (.int .i64 i)), (16, .v (.int .i64 k))]) (fun (k, ch3, e) => []) (fun (k, ch3, e) => (LeA x e) ∧ (∀ d, LeA x d → ClosedA (layRects rs) d → LeA e d) ∧ (InA rs.length e) ∧ (e.t ≤ i) ∧ (i < e.b) ∧ (LeA a e) ∧ (ch3 = false → e = a ∧ (∀ j : Int, e.t ≤ j → j < i → FineR rs e j (ncN rs j)) ∧ FineR rs e i k) ∧ (ch3 = true → a ≠ e) ∧ (0 ≤ k) ∧ (k ≤ (rAt rs i).cells.length)) (fun (k, ch3, e) => ((rAt rs i).cells.length - k).toNat) (0, ch2, c) ⟨by skip; repeat (first | exact Agree.nil | refine Agree.cons rfl ?_), by skip; repeat (first | exact List.nil_sublist _ | exact List.Sublist.refl _ | apply List.Sublist.cons_cons | apply List.Sublist.cons)⟩ ?_ ?_
      · skip
        exact ⟨l0, l1, l2, l3, by omega, l4, fun h => ⟨(l5 h).1, (l5 h).2, FineR.zero _ _ _⟩, l6, Int.le_refl _, by omega⟩
      rintro ⟨k, ch3, e⟩
      rintro ⟨m0, m1, m2, m3, m4, m5, m6, m7, n0, n1⟩
      show TC _ _ _ (Env.of [(0, .sl 6 (encRs rs)), (1, .v (.int .i64 e.t)), (2, .v (.int .i64 e.l)), (3, .v (.int .i64 e.b)), (4, .v (.int .i64 e.r)), (14, .v (.bool ch3)), (15, .v (.int .i64 i)), (16, .v (.int .i64 k))]) []
      refine TC.seq ?_
      refine TC.seq ?_
      refine TC.region ?_
      refine TL.run1 (pure_move rfl) rfl ?_
      refine TL.run1 (pure_move rfl) rfl ?_
      refine TL.run1 (pure_move rfl) rfl ?_
      refine TL.run1 (pure_indexAddr Ty.sl22 rfl rfl (by omega) (by assumption) (List.cons_ne_nil _ _)) rfl ?_
      first | refine TL.run1 (pure_fieldAddr Ty.f36_1 rfl (.succ (.succ (.succ (.succ (.succ (.zero _)))))) (List.cons_ne_nil _ _)) rfl ?_ | refine TL.run1 (pure_fieldAddr_own Ty.f36_1 rfl) rfl ?_
      first | refine TL.run1 (pure_load1 Ty.one34 rfl) rfl ?_ | refine TL.run1 (pure_load1_own Ty.one34 rfl (by repeat (first | exact List.Mem.head _ | apply List.Mem.tail)) (by repeat (first | exact DropR.zero _ | apply DropR.succ))) rfl ?_
      first | refine TL.run1 (pure_len Ty.sl34 rfl) rfl ?_ | refine TL.run1 (pure_len_row Ty.sl34 rfl (by repeat (first | exact List.Mem.head _ | apply List.Mem.tail))) rfl ?_ | refine TL.run1 (pure_len_nil Ty.sl34 rfl) rfl ?_
      refine TL.run1 (pure_lss rfl rfl) rfl ?_
      refine TL.nil' ?_
      first | refine TC.condD rfl (fun hc36 => ?_) (fun hc36 => ?_) | refine TC.condN rfl (fun hc36 => ?_) (fun hc36 => ?_) | refine TC.cond rfl (fun hc36 => ?_) (fun hc36 => ?_)
      · try dsimp only at hc36
        refine TC.skip' ?_
        refine TC.seq ?_
        refine TC.block ?_
        refine TC.seq ?_
        refine TC.region ?_
        refine TL.run1 (pure_move rfl) rfl ?_
        refine TL.run1 (pure_move rfl) rfl ?_
        refine TL.run1 (pure_indexAddr Ty.sl22 rfl rfl (by omega) (by assumption) (List.cons_ne_nil _ _)) rfl ?_
        first | refine TL.run1 (pure_load Ty.agg36 rfl (.succ (.succ (.succ (.succ (.succ (.succ (.zero _)))))))) rfl ?_ | refine TL.run1 (pure_load_own Ty.agg36 rfl (by repeat (first | exact List.Mem.head _ | apply List.Mem.tail)) (by repeat (first | exact DropR.zero _ | apply DropR.succ)) (.succ (.succ (.succ (.succ (.succ (.succ (.zero _)))))))) rfl ?_
        refine TL.run1 (pure_move rfl) rfl ?_
        refine TL.run1 (pure_call (span_spec _ hro _ n0 (by omega)) (.cons rfl (.cons rfl .nil)) Try.call19) rfl ?_
        refine TL.run1 (pure_move rfl) rfl ?_
        refine TL.run1 (pure_extract rfl rfl) rfl ?_
        refine TL.run1 (pure_extract rfl rfl) rfl ?_
        refine TL.run1 (pure_assign rfl) rfl ?_
        refine TL.run1 (pure_assign rfl) rfl ?_
        refine TL.nil' ?_
        refine TC.seq ?_
        refine TC.regionCut [48, 49, 50, 51, 52, 53, 54, 55, 56, 57, 58, 59, 60] 60 ((spN rs i k).1 = (spN rs i k).2 ∨ (spN rs i k).1 ≥ e.r ∨ (spN rs i k).2 ≤ e.l) ?_ ?_
        · skip
          refine TL.run1 (pure_move rfl) rfl ?_
          refine TL.run1 (pure_move rfl) rfl ?_
          refine TL.run1 (pure_eql rfl rfl) rfl ?_
          refine TL.run1 (pure_move rfl) rfl ?_
          first | refine TL.splitP 51 rfl (fun hg51 => ?_) (fun hg51 => ?_) | refine TL.split 51 rfl (fun hg51 => ?_) (fun hg51 => ?_)
          · try dsimp only at hg51
            refine TL.passG rfl rfl rfl rfl ?_
            refine TL.passG rfl rfl rfl rfl ?_
            refine TL.passG rfl rfl rfl rfl ?_
            refine TL.run1 (pure_pick_true rfl rfl) rfl ?_
            refine TL.run1 (pure_move rfl) rfl ?_
            refine TL.passG rfl rfl rfl rfl ?_
            refine TL.passG rfl rfl rfl rfl ?_
            refine TL.passG rfl rfl rfl rfl ?_
            refine TL.run1 (pure_pick_true rfl rfl) rfl ?_
            refine TL.cutEnd (by repeat (first | exact Same.refl _ _ | refine Same.put rfl ?_)) rfl ?_
            first | (simp only [spN] at *; simp_all; done) | (simp only [spN, decide_eq_true_eq, Bool.false_eq_true, false_iff, true_iff, iff_true, iff_false, Bool.not_eq_true] at *; omega) | grind [spN]
          · try dsimp only at hg51
            refine TL.runG rfl rfl (pure_move rfl) rfl ?_
            refine TL.runG rfl rfl (pure_move rfl) rfl ?_
            refine TL.runG rfl rfl (pure_geq rfl rfl) rfl ?_
            refine TL.run1 (pure_pick_false rfl rfl) rfl ?_
            refine TL.run1 (pure_move rfl) rfl ?_
            first | refine TL.splitP 56 rfl (fun hg56 => ?_) (fun hg56 => ?_) | refine TL.split 56 rfl (fun hg56 => ?_) (fun hg56 => ?_)
            · try dsimp only at hg56
              refine TL.passG rfl rfl rfl rfl ?_
              refine TL.passG rfl rfl rfl rfl ?_
              refine TL.passG rfl rfl rfl rfl ?_
              refine TL.run1 (pure_pick_true rfl rfl) rfl ?_
              refine TL.cutEnd (by repeat (first | exact Same.refl _ _ | refine Same.put rfl ?_)) rfl ?_
              first | (simp only [spN] at *; simp_all; done) | (simp only [spN, decide_eq_true_eq, Bool.false_eq_true, false_iff, true_iff, iff_true, iff_false, Bool.not_eq_true] at *; omega) | grind [spN]
            · try dsimp only at hg56
              refine TL.runG rfl rfl (pure_move rfl) rfl ?_
              refine TL.runG rfl rfl (pure_move rfl) rfl ?_
              refine TL.runG rfl rfl (pure_leq rfl rfl) rfl ?_
              refine TL.run1 (pure_pick_false rfl rfl) rfl ?_
              refine TL.cutEnd (by repeat (first | exact Same.refl _ _ | refine Same.put rfl ?_)) rfl ?_
              first | (simp only [spN] at *; simp_all; done) | (simp only [spN, decide_eq_true_eq, Bool.false_eq_true, false_iff, true_iff, iff_true, iff_false, Bool.not_eq_true] at *; omega) | grind [spN]
        first | refine TC.condD rfl (fun hc60 => ?_) (fun hc60 => ?_) | refine TC.condN rfl (fun hc60 => ?_) (fun hc60 => ?_) | refine TC.cond rfl (fun hc60 => ?_) (fun hc60 => ?_)
        · try dsimp only at hc60
          refine TC.exit ?_
          refine then_exit ?_
          refine block_here ?_
          refine then_normal ?_
          refine TC.region ?_
          refine TL.run1 (pure_move rfl) rfl ?_
          refine TL.run1 (pure_add rfl rfl (mkI64 (by omega) (by omega))) rfl ?_
          refine TL.run1 (pure_assign rfl) rfl ?_
          refine TL.nil ?_
          refine loop_next (k + 1, ch3, e) ⟨by repeat (first | exact Agree.nil | refine Agree.cons rfl ?_), by repeat (first | exact List.nil_sublist _ | exact List.Sublist.refl _ | apply List.Sublist.cons_cons | apply List.Sublist.cons)⟩ ⟨m0, m1, m2, m3, m4, m5, fun h => ⟨(m6 h).1, (m6 h).2.1, (m6 h).2.2.step (fun hv h1 h2 => by have := hv.lt; omega)⟩, m7, by omega, by omega⟩ (by dsimp only; omega)
        · try dsimp only at hc60
          have hv : Val rs i k := place_val.2 ⟨⟨hi0, hi1, n0, by omega⟩, fun h => hc60 (.inl h)⟩
          have hs1 : (spN rs i k).1 < e.r := by omega
          have hs2 : e.l < (spN rs i k).2 := by omega
          obtain ⟨p1, p2, p3, p4, p5⟩ := rectN_row hv
          refine TC.skip' ?_
          refine TC.seq ?_
          refine TC.region ?_
          refine TL.run1 (pure_move rfl) rfl ?_
          refine TL.run1 (pure_move rfl) rfl ?_
          refine TL.run1 (pure_move rfl) rfl ?_
          refine TL.run1 (pure_call (RPlace_spec _ hr _ _ hv) (.cons rfl (.cons rfl (.cons rfl .nil))) Try.call38) rfl ?_
          refine TL.run1 (pure_move rfl) rfl ?_
          refine TL.run1 (pure_extract rfl rfl) rfl ?_
          refine TL.run1 (pure_extract rfl rfl) rfl ?_
          refine TL.run1 (pure_extract rfl rfl) rfl ?_
          refine TL.run1 (pure_assign rfl) rfl ?_
          refine TL.run1 (pure_assign rfl) rfl ?_
          refine TL.run1 (pure_assign rfl) rfl ?_
          refine TL.nil' ?_
          refine TC.regionCut [69, 70, 71, 72, 73, 74, 75, 76, 77, 78, 79, 80, 81, 82, 83, 84, 85, 86] 86 (¬ SubQ (rectN rs i k) e) ?_ ?_
          · skip
            refine TL.run1 (pure_move rfl) rfl ?_
            refine TL.run1 (pure_move rfl) rfl ?_
            refine TL.run1 (pure_lss rfl rfl) rfl ?_
            refine TL.run1 (pure_move rfl) rfl ?_
            first | refine TL.splitP 72 rfl (fun hg72 => ?_) (fun hg72 => ?_) | refine TL.split 72 rfl (fun hg72 => ?_) (fun hg72 => ?_)
            · try dsimp only at hg72
              refine TL.passG rfl rfl rfl rfl ?_
              refine TL.passG rfl rfl rfl rfl ?_
              refine TL.passG rfl rfl rfl rfl ?_
              refine TL.run1 (pure_pick_true rfl rfl) rfl ?_
              refine TL.run1 (pure_move rfl) rfl ?_
              refine TL.passG rfl rfl rfl rfl ?_
              refine TL.passG rfl rfl rfl rfl ?_
              refine TL.passG rfl rfl rfl rfl ?_
              refine TL.run1 (pure_pick_true rfl rfl) rfl ?_
              refine TL.run1 (pure_move rfl) rfl ?_
              refine TL.passG rfl rfl rfl rfl ?_
              refine TL.passG rfl rfl rfl rfl ?_
              refine TL.passG rfl rfl rfl rfl ?_
              refine TL.run1 (pure_pick_true rfl rfl) rfl ?_
              refine TL.cutEnd (by repeat (first | exact Same.refl _ _ | refine Same.put rfl ?_)) rfl ?_
              first | (simp only [SubQ, spN, decide_eq_true_eq, Bool.false_eq_true, false_iff, true_iff, iff_true, iff_false, Bool.not_eq_true, Decidable.not_not] at *; omega) | grind [SubQ, spN]
            · try dsimp only at hg72
              refine TL.runG rfl rfl (pure_move rfl) rfl ?_
              refine TL.runG rfl rfl (pure_move rfl) rfl ?_
              refine TL.runG rfl rfl (pure_gtr rfl rfl) rfl ?_
              refine TL.run1 (pure_pick_false rfl rfl) rfl ?_
              refine TL.run1 (pure_move rfl) rfl ?_
              first | refine TL.splitP 77 rfl (fun hg77 => ?_) (fun hg77 => ?_) | refine TL.split 77 rfl (fun hg77 => ?_) (fun hg77 => ?_)
              · try dsimp only at hg77
                refine TL.passG rfl rfl rfl rfl ?_
                refine TL.passG rfl rfl rfl rfl ?_
                refine TL.passG rfl rfl rfl rfl ?_
                refine TL.run1 (pure_pick_true rfl rfl) rfl ?_
                refine TL.run1 (pure_move rfl) rfl ?_
                refine TL.passG rfl rfl rfl rfl ?_
                refine TL.passG rfl rfl rfl rfl ?_
                refine TL.passG rfl rfl rfl rfl ?_
                refine TL.run1 (pure_pick_true rfl rfl) rfl ?_
                refine TL.cutEnd (by repeat (first | exact Same.refl _ _ | refine Same.put rfl ?_)) rfl ?_
                first | (simp only [SubQ, spN, decide_eq_true_eq, Bool.false_eq_true, false_iff, true_iff, iff_true, iff_false, Bool.not_eq_true, Decidable.not_not] at *; omega) | grind [SubQ, spN]
              · try dsimp only at hg77
                refine TL.runG rfl rfl (pure_move rfl) rfl ?_
                refine TL.runG rfl rfl (pure_move rfl) rfl ?_
                refine TL.runG rfl rfl (pure_lss rfl rfl) rfl ?_
                refine TL.run1 (pure_pick_false rfl rfl) rfl ?_
                refine TL.run1 (pure_move rfl) rfl ?_
                first | refine TL.splitP 82 rfl (fun hg82 => ?_) (fun hg82 => ?_) | refine TL.split 82 rfl (fun hg82 => ?_) (fun hg82 => ?_)
                · try dsimp only at hg82
                  refine TL.passG rfl rfl rfl rfl ?_
                  refine TL.passG rfl rfl rfl rfl ?_
                  refine TL.passG rfl rfl rfl rfl ?_
                  refine TL.run1 (pure_pick_true rfl rfl) rfl ?_
                  refine TL.cutEnd (by repeat (first | exact Same.refl _ _ | refine Same.put rfl ?_)) rfl ?_
                  first | (simp only [SubQ, spN, decide_eq_true_eq, Bool.false_eq_true, false_iff, true_iff, iff_true, iff_false, Bool.not_eq_true, Decidable.not_not] at *; omega) | grind [SubQ, spN]
                · try dsimp only at hg82
                  refine TL.runG rfl rfl (pure_move rfl) rfl ?_
                  refine TL.runG rfl rfl (pure_move rfl) rfl ?_
                  refine TL.runG rfl rfl (pure_gtr rfl rfl) rfl ?_
                  refine TL.run1 (pure_pick_false rfl rfl) rfl ?_
                  refine TL.cutEnd (by repeat (first | exact Same.refl _ _ | refine Same.put rfl ?_)) rfl ?_
                  first | (simp only [SubQ, spN, decide_eq_true_eq, Bool.false_eq_true, false_iff, true_iff, iff_true, iff_false, Bool.not_eq_true, Decidable.not_not] at *; omega) | grind [SubQ, spN]
          first | refine TC.condD rfl (fun hc86 => ?_) (fun hc86 => ?_) | refine TC.condN rfl (fun hc86 => ?_) (fun hc86 => ?_) | refine TC.cond rfl (fun hc86 => ?_) (fun hc86 => ?_)
          · try dsimp only at hc86
            refine TC.seq ?_
            refine TC.region ?_
            refine TL.run1 (pure_move rfl) rfl ?_
            refine TL.run1 (pure_move rfl) rfl ?_
            refine TL.run1 (pure_min rfl rfl) rfl ?_
            refine TL.run1 (pure_move rfl) rfl ?_
            refine TL.run1 (pure_move rfl) rfl ?_
            refine TL.run1 (pure_min rfl rfl) rfl ?_
            refine TL.run1 (pure_move rfl) rfl ?_
            refine TL.run1 (pure_move rfl) rfl ?_
            refine TL.run1 (pure_max rfl rfl) rfl ?_
            refine TL.run1 (pure_move rfl) rfl ?_
            refine TL.run1 (pure_move rfl) rfl ?_
            refine TL.run1 (pure_max rfl rfl) rfl ?_
            refine TL.run1 (pure_assign rfl) rfl ?_
            refine TL.run1 (pure_assign rfl) rfl ?_
            refine TL.run1 (pure_assign rfl) rfl ?_
            refine TL.run1 (pure_assign rfl) rfl ?_
            refine TL.nil' ?_
            refine TC.region ?_
            refine TL.run1 (pure_assign rfl) rfl ?_
            refine TL.nil ?_
            refine block_normal ?_
            refine then_normal ?_
            refine TC.region ?_
            refine TL.run1 (pure_move rfl) rfl ?_
            refine TL.run1 (pure_add rfl rfl (mkI64 (by omega) (by omega))) rfl ?_
            refine TL.run1 (pure_assign rfl) rfl ?_
            refine TL.nil ?_
            have hmt : MeetQ (rectN rs i k) e := ⟨by omega, by omega, by omega, by omega⟩
            refine loop_next (k + 1, true, growA (rectN rs i k) e) ⟨by repeat (first | exact Agree.nil | refine Agree.cons rfl ?_), by repeat (first | exact List.nil_sublist _ | exact List.Sublist.refl _ | apply List.Sublist.cons_cons | apply List.Sublist.cons)⟩ ⟨m0.trans (le_grow _ _), fun d hd hc => grow_least (rectN_mem hv) hmt (m1 d hd hc) hc, ?_, ?_, ?_, m5.trans (le_grow _ _), fun h => (by cases h), fun _ => grow_ne hc86 m5, by omega, by omega⟩ (by dsimp only; omega)
            · have hq := rect_in _ (rectN_mem hv)
              unfold InA growA at *; simp only; omega
            · unfold growA; simp only; omega
            · unfold growA; simp only; omega
          · try dsimp only at hc86
            refine TC.skip ?_
            refine block_normal ?_
            refine then_normal ?_
            refine TC.region ?_
            refine TL.run1 (pure_move rfl) rfl ?_
            refine TL.run1 (pure_add rfl rfl (mkI64 (by omega) (by omega))) rfl ?_
            refine TL.run1 (pure_assign rfl) rfl ?_
            refine TL.nil ?_
            refine loop_next (k + 1, ch3, e) ⟨by repeat (first | exact Agree.nil | refine Agree.cons rfl ?_), by repeat (first | exact List.nil_sublist _ | exact List.Sublist.refl _ | apply List.Sublist.cons_cons | apply List.Sublist.cons)⟩ ⟨m0, m1, m2, m3, m4, m5, fun h => ⟨(m6 h).1, (m6 h).2.1, (m6 h).2.2.step (fun _ _ _ => Decidable.not_not.1 hc86)⟩, m7, by omega, by omega⟩ (by dsimp only; omega)
      · try dsimp only at hc36
        refine TC.exit ?_
        refine then_exit ?_
        refine loop_exit ?_
        refine block_here ?_
        refine block_normal ?_
        refine then_normal ?_
        refine TC.region ?_
        refine TL.run1 (pure_move rfl) rfl ?_
        refine TL.run1 (pure_add rfl rfl (mkI64 (by omega) (by omega))) rfl ?_
        refine TL.run1 (pure_assign rfl) rfl ?_
        refine TL.nil ?_
        refine loop_next (i + 1, ch3, e) ⟨by repeat (first | exact Agree.nil | refine Agree.cons rfl ?_), by repeat (first | exact List.nil_sublist _ | exact List.Sublist.refl _ | apply List.Sublist.cons_cons | apply List.Sublist.cons)⟩ ⟨m0, m1, m2, by omega, m5, fun h => ⟨(m6 h).1, fun j p q => ?_⟩, m7, by omega⟩ (by dsimp only; omega)
        rcases Int.lt_or_eq_of_le (show j ≤ i by omega) with hl | hl
        · exact (m6 h).2.1 j p hl
        · rw [hl]; have := (m6 h).2.2; rwa [show k = ncN rs i by unfold ncN; omega] at this
    · try dsimp only at hc26
      refine TC.exit ?_
      refine then_exit ?_
      refine loop_exit ?_
      refine block_here ?_
      refine block_normal ?_
      refine loop_next (ch2, c) ⟨by repeat (first | exact Agree.nil | refine Agree.cons rfl ?_), by repeat (first | exact List.nil_sublist _ | exact List.Sublist.refl _ | apply List.Sublist.cons_cons | apply List.Sublist.cons)⟩ ⟨l0, l1, l2, fun h => ?_⟩ ?_
      · intro j hj1 hj2; exact (l5 h).2 j hj1 (by omega)
      · dsimp only; rw [hc22]; cases hch : ch2 with
        | true => have hm := mu_lt l4 (l6 hch) l2; simp only [if_true]; omega
        | false => rw [(l5 hch).1]; simp only [Bool.false_eq_true, if_false, if_true]; omega
  · try dsimp only at hc22
    have hch : ch = false := by simpa using hc22
    have hcv : covN rs x = a := (covN_cov hin.inA).unique ⟨h0, fine_closed hab (h3 hch), h1⟩
    refine TC.exit ?_
    refine then_exit ?_
    refine loop_exit ?_
    refine block_here ?_
    refine then_normal ?_
    refine TC.seq ?_
    refine TC.region ?_
    refine TL.run1 (pure_move rfl) rfl ?_
    refine TL.run1 (pure_move rfl) rfl ?_
    refine TL.run1 (pure_move rfl) rfl ?_
    refine TL.run1 (pure_move rfl) rfl ?_
    refine TL.run1 (pure_assign rfl) rfl ?_
    refine TL.run1 (pure_assign rfl) rfl ?_
    refine TL.run1 (pure_assign rfl) rfl ?_
    refine TL.run1 (pure_assign rfl) rfl ?_
    refine TL.nil' ?_
    refine TC.ret ?_
    exact ret4 (.inl rfl) rfl rfl rfl rfl (by rw [hcv])
set_option maxRecDepth 100000 in
theorem lcover_spec (rs : List RowD) (hr : TabOk rs) (x : A4) (hin : InsideA rs x) : Fun Try.prog 22 [.sl 6 (encRs rs), .agg [.v (.int .i64 x.t), .v (.int .i64 x.l), .v (.int .i64 x.b), .v (.int .i64 x.r)]] (.agg (encA (covN rs x))) := by
  refine Fun.enterF (n := 29) (rs := [.cell 4 38]) Try.func22 rfl Try.ntmps22 Try.results22 rfl (fun w F => ?_)
  refine TC.seq ?_
  refine TC.region ?_
  refine TL.box rfl (.agg _) rfl (fun g3 => ?_)
  refine TL.alloc Ty.zero38 rfl (fun g4 => ?_)
  refine TL.nil' ?_
  refine TC.seq ?_
  refine TC.region ?_
  refine TL.run1 (pure_move rfl) rfl ?_
  first | refine TL.run1 (pure_fieldAddr Ty.f38_0 rfl (.zero _) (List.cons_ne_nil _ _)) rfl ?_ | refine TL.run1 (pure_fieldAddr_own Ty.f38_0 rfl) rfl ?_
  first | refine TL.run1 (pure_load1 Ty.one3 rfl) rfl ?_ | refine TL.run1 (pure_load1_own Ty.one3 rfl (by repeat (first | exact List.Mem.head _ | apply List.Mem.tail)) (by repeat (first | exact DropR.zero _ | apply DropR.succ))) rfl ?_
  first | refine TL.run1 (pure_fieldAddr Ty.f38_1 rfl (.succ (.zero _)) (List.cons_ne_nil _ _)) rfl ?_ | refine TL.run1 (pure_fieldAddr_own Ty.f38_1 rfl) rfl ?_
  first | refine TL.run1 (pure_load1 Ty.one3 rfl) rfl ?_ | refine TL.run1 (pure_load1_own Ty.one3 rfl (by repeat (first | exact List.Mem.head _ | apply List.Mem.tail)) (by repeat (first | exact DropR.zero _ | apply DropR.succ))) rfl ?_
  first | refine TL.run1 (pure_fieldAddr Ty.f38_2 rfl (.succ (.succ (.zero _))) (List.cons_ne_nil _ _)) rfl ?_ | refine TL.run1 (pure_fieldAddr_own Ty.f38_2 rfl) rfl ?_
  first | refine TL.run1 (pure_load1 Ty.one3 rfl) rfl ?_ | refine TL.run1 (pure_load1_own Ty.one3 rfl (by repeat (first | exact List.Mem.head _ | apply List.Mem.tail)) (by repeat (first | exact DropR.zero _ | apply DropR.succ))) rfl ?_
  first | refine TL.run1 (pure_fieldAddr Ty.f38_3 rfl (.succ (.succ (.succ (.zero _)))) (List.cons_ne_nil _ _)) rfl ?_ | refine TL.run1 (pure_fieldAddr_own Ty.f38_3 rfl) rfl ?_
  first | refine TL.run1 (pure_load1 Ty.one3 rfl) rfl ?_ | refine TL.run1 (pure_load1_own Ty.one3 rfl (by repeat (first | exact List.Mem.head _ | apply List.Mem.tail)) (by repeat (first | exact DropR.zero _ | apply DropR.succ))) rfl ?_
  refine TL.run1 (pure_call (RCover_spec _ hr x hin) (.cons rfl (.cons rfl (.cons rfl (.cons rfl (.cons rfl .nil))))) Try.call41) rfl ?_
  refine TL.run1 (pure_move rfl) rfl ?_
  refine TL.run1 (pure_extract rfl rfl) rfl ?_
  refine TL.run1 (pure_extract rfl rfl) rfl ?_
  refine TL.run1 (pure_extract rfl rfl) rfl ?_
  refine TL.run1 (pure_extract rfl rfl) rfl ?_
  refine TL.run1 (pure_assign rfl) rfl ?_
  refine TL.run1 (pure_assign rfl) rfl ?_
  refine TL.run1 (pure_assign rfl) rfl ?_
  refine TL.run1 (pure_assign rfl) rfl ?_
  refine TL.nil' ?_
  refine TC.seq ?_
  refine TC.region ?_
  refine TL.run1 (pure_move rfl) rfl ?_
  refine TL.run1 (pure_move rfl) rfl ?_
  refine TL.run1 (pure_move rfl) rfl ?_
  refine TL.run1 (pure_move rfl) rfl ?_
  refine TL.run1 (pure_build Ty.pl38 Ty.zero38 (.cons rfl rfl (.one rfl) rfl (.here (.nil _)) (.cons rfl rfl (.one rfl) rfl (.skip (.here (.nil _))) (.cons rfl rfl (.one rfl) rfl (.skip (.skip (.here (.nil _)))) (.cons rfl rfl (.one rfl) rfl (.skip (.skip (.skip (.here (.nil _))))) (.nil _)))))) rfl ?_
  refine TL.store rfl rfl (.agg _) Try.sizeOf38 rfl (by repeat (first | exact UpdR.here _ | apply UpdR.there)) (by repeat (first | exact PutR.nil _ | apply PutR.here | apply PutR.skip)) ?_
  refine TL.nil' ?_
  refine TC.ret ?_
  exact retF_cell (.inl rfl) Ty.agg38 rfl (by repeat (first | exact List.Mem.head _ | apply List.Mem.tail)) rfl (.same _)
end Go.Ob
set_option linter.unusedVariables false
set_option linter.unusedSimpArgs false
namespace Go.Ob
open Go.Proofs
theorem dec_area {n : Nat} {ds : List D} (h : Typed Try.prog n 38 ds) : ∃ y : A4, (fun _ => True) y ∧ ds = encA y := by
  obtain ⟨m0, ps0, rfl, a0⟩ := ty_st (ts := [3, 3, 3, 3]) Try.underlying38 rfl h
  obtain ⟨p0_0, q0_0, rfl, h0_0, a0⟩ := all_cons a0
  obtain ⟨p0_1, q0_1, rfl, h0_1, a0⟩ := all_cons a0
  obtain ⟨p0_2, q0_2, rfl, h0_2, a0⟩ := all_cons a0
  obtain ⟨p0_3, q0_3, rfl, h0_3, a0⟩ := all_cons a0
  obtain rfl := all_nil a0
  obtain ⟨x1, rfl, w1⟩ := ty_int Try.underlying3 h0_0
  obtain ⟨x2, rfl, w2⟩ := ty_int Try.underlying3 h0_1
  obtain ⟨x3, rfl, w3⟩ := ty_int Try.underlying3 h0_2
  obtain ⟨x4, rfl, w4⟩ := ty_int Try.underlying3 h0_3
  exact ⟨⟨x1, x2, x3, x4⟩, trivial, rfl⟩
theorem open_a {d : D} (h : TypedV Try.prog 38 d) : ∃ a : A4, d = .agg (encA a) := by
  obtain ⟨n, ds, rfl, h1⟩ := tv_st Try.underlying38 h
  obtain ⟨a, _, rfl⟩ := dec_area h1
  exact ⟨a, rfl⟩
end Go.Ob
set_option linter.unusedVariables false
set_option linter.unusedSimpArgs false
namespace Go.Ob
open Go.Proofs
open Go.RowKit Go.ChangeShapes Go.WideShapes Go.Deep
def TypedS (P : Program) : Nat → Nat → List D → Prop
  | 0, _, _ => False
  | n + 1, t, ds => match P.underlying t with
    | some .bool => ∃ b, ds = [.v (.bool b)]
    | some (.int k) => ∃ x, ds = [.v (.int k x)] ∧ (Lit.int k x).wf = true
    | some .string => ∃ s : ByteArray, ds = [.v (.string s)] ∧ s.size ≤ maxLen
    | some (.slice e) => ∃ xs, ds = [.sl (P.cellsOf e) xs] ∧ (xs.length ≤ maxLen ∧ xs.length * P.bytesOf e ≤ reachBytes) ∧ ∀ x ∈ xs, TypedS P n e x ∧ x.length = P.cellsOf e
    | some (.struct fs) => ∃ parts : List (List D), ds = parts.flatten ∧ parts.length = fs.size ∧ ∀ (i : Nat) (f : Field) (p : List D), fs[i]? = some f → parts[i]? = some p → TypedS P n f.type p
    | _ => False
theorem tsB {P : Program} {n t : Nat} {b : Bool} (hu : P.underlying t = some .bool) : TypedS P (n + 1) t [.v (.bool b)] := by
  simp only [TypedS, hu]; exact ⟨b, rfl⟩
theorem tsI {P : Program} {n t : Nat} {k : IntKind} {x : Int} (hu : P.underlying t = some (.int k)) (hx : (Lit.int k x).wf = true) : TypedS P (n + 1) t [.v (.int k x)] := by
  simp only [TypedS, hu]; exact ⟨x, rfl, hx⟩
theorem tsT {P : Program} {n t : Nat} {s : ByteArray} (hu : P.underlying t = some .string) (hx : s.size ≤ maxLen) : TypedS P (n + 1) t [.v (.string s)] := by
  simp only [TypedS, hu]; exact ⟨s, rfl, hx⟩
theorem tsS {P : Program} {n t e : Nat} {xs : List (List D)} (hu : P.underlying t = some (.slice e)) (h1 : xs.length ≤ maxLen) (h2 : xs.length * P.bytesOf e ≤ reachBytes) (h : ∀ x ∈ xs, TypedS P n e x ∧ x.length = P.cellsOf e) : TypedS P (n + 1) t [.sl (P.cellsOf e) xs] := by
  simp only [TypedS, hu]; exact ⟨xs, rfl, ⟨h1, h2⟩, h⟩
theorem tsF {P : Program} {n t : Nat} {fs : Array Field} {parts : List (List D)} (hu : P.underlying t = some (.struct fs)) (h1 : parts.length = fs.size) (h : ∀ (i : Nat) (f : Field) (p : List D), fs[i]? = some f → parts[i]? = some p → TypedS P n f.type p) : TypedS P (n + 1) t parts.flatten := by
  simp only [TypedS, hu]; exact ⟨parts, rfl, h1, h⟩
theorem weightsAll_mem {H : Type} {P : Program} {e : Nat} : ∀ {ds : List (DataW H)} {d : DataW H} (_ : d ∈ ds) (m : Nat) (_ : m ∈ d.weights P e), m ∈ DataW.weightsAll P e ds
  | d0 :: ds, d, h, m, hm => by
    simp only [DataW.weightsAll, List.mem_append]
    rcases List.mem_cons.1 h with rfl | h
    · exact Or.inl hm
    · exact Or.inr (weightsAll_mem h m hm)
  | [], _, h, _, _ => by cases h
theorem trodRepS {H : Type} {enc : TypeId × Value → H} {P : Program} {w : World} {held : Bool} {ts : List Nat} (hps : plainS P ts = true) : ∀ (fuel : Nat) (t : Nat) (cs : List Value) (x : DataW H × List MemPlace),
    ts.contains t = true → DataW.trod enc P w 0 (fun _ => true) held fuel t cs = some x → (∀ m ∈ x.1.weights P t, m ≤ reachBytes) → ∃ ds, TypedS P fuel t ds ∧ RepC w ds cs := by
  intro n
  induction n with
  | zero => intro t cs x _ h; simp [DataW.trod] at h
  | succ n ih =>
    intro t cs x hp h hwt
    replace hp := List.all_eq_true.1 hps t (List.contains_iff_mem.1 hp)
    unfold plainT at hp
    split at hp
    · rename_i hu
      obtain ⟨b, rfl, _⟩ := DataW.trod_bool hu h
      exact ⟨_, tsB hu, .one rfl (.v _)⟩
    · rename_i k hu
      obtain ⟨m, rfl, _, hw⟩ := DataW.trod_int hu h
      exact ⟨_, tsI hu hw, .one rfl (.v _)⟩
    · rename_i hu
      obtain ⟨s, rfl, _, hs⟩ := DataW.trod_string hu h
      exact ⟨_, tsT hu hs, .one rfl (.v _)⟩
    · rename_i e hu
      simp only [Bool.and_eq_true, decide_eq_true_eq] at hp
      rcases DataW.trod_slice hu h with ⟨rfl, _⟩ | ⟨a, len, cap, elems, rest, k, hk, rfl, hxe, _, hlc, hcap, hlen, hel, _, _⟩
      · exact ⟨_, tsS (xs := []) hu (by simp) (by simp) (fun _ h => by cases h), .one rfl (.nil _)⟩
      · obtain rfl : k = n := by omega
        subst hxe
        simp only [DataW.weights, hu] at hwt
        have hby : len * P.bytesOf e ≤ reachBytes := by
          have h1 := hwt _ (List.mem_cons_self ..)
          have h2 : len * P.bytesOf e ≤ ((elems.map (·.1)).length + (rest.map (·.1)).length) * P.bytesOf e := Nat.mul_le_mul_right _ (by simp; omega)
          omega
        have hx : ∀ i, i < len → ∃ cs', w.cells? 0 (a.add (i * P.cellsOf e)) (P.cellsOf e) = some cs' ∧ ∃ y, DataW.trod enc P w 0 (fun _ => true) held k e cs' = some y ∧ ∀ m ∈ y.1.weights P e, m ≤ reachBytes := fun i hi => by
          have h1 := hel i hi
          rw [List.getElem?_eq_getElem (by omega)] at h1
          obtain ⟨cs', h2, h3⟩ := Option.bind_eq_some_iff.1 h1
          refine ⟨cs', h2, _, h3, fun m hm => hwt m ?_⟩
          exact List.mem_cons_of_mem _ (List.mem_append_left _ (weightsAll_mem (List.mem_map.2 ⟨_, List.getElem_mem _, rfl⟩) m hm))
        obtain ⟨X, hX⟩ := choose_lt (α := List D × List Value) (n := len) (p := fun i X => w.cells? 0 (a.add (i * P.cellsOf e)) (P.cellsOf e) = some X.2 ∧ TypedS P k e X.1 ∧ RepC w X.1 X.2) (fun i hi => by
          obtain ⟨cs', h1, y, h2, hw2⟩ := hx i hi
          obtain ⟨ds, h3, h4⟩ := ih _ _ _ hp.1 h2 hw2
          exact ⟨(ds, cs'), h1, h3, h4⟩)
        have hcl : ∀ i, i < len → (X i).2.length = P.cellsOf e := fun i hi => (World.cells?_some (hX i hi).1).2.1
        refine ⟨[.sl (P.cellsOf e) ((List.range len).map fun i => (X i).1)], tsS hu (by simp; omega) (by simpa using hby) (fun x hx => ?_), .one rfl ?_⟩
        · obtain ⟨i, hi, rfl⟩ := List.mem_map.1 hx
          have hi := List.mem_range.1 hi
          exact ⟨(hX i hi).2.1, by rw [(hX i hi).2.2.1, hcl i hi]⟩
        · have hget : ∀ {i : Nat} {x : List D}, ((List.range len).map fun i => (X i).1)[i]? = some x → i < len ∧ x = (X i).1 := by
            intro i x h
            obtain ⟨hi, he⟩ := List.getElem?_eq_some_iff.1 h
            simp at hi he
            exact ⟨hi, he.symm⟩
          have key : ∀ (i j : Nat) (d : D), i < len → (X i).1[j]? = some d → w.cell? (a.add (i * P.cellsOf e + j)) = some ((X i).2.getD j (.bool false)) ∧ ((X i).2.getD j (.bool false)).oneCell' = true ∧ Rep w no d ((X i).2.getD j (.bool false)) := by
            intro i j d hi hd
            have hj : j < (X i).1.length := (List.getElem?_eq_some_iff.1 hd).1
            have hl := (hX i hi).2.2.1
            have hj2 : j < (X i).2.length := by omega
            have hu : (X i).2[j]? = some ((X i).2.getD j (.bool false)) := by simp [List.getD, hj2]
            have := (World.cells?_some (hX i hi).1).2.2 j (by rw [← hcl i hi]; exact hj2)
            rw [Deep.add_add, hu] at this
            exact ⟨this, (hX i hi).2.2.2 j d _ hd hu⟩
          have := Rep.sl (w := w) (own := no) (P.cellsOf e) ((List.range len).map fun i => (X i).1) a cap (fun i j => (X i).2.getD j (.bool false)) (by simpa using hlc) (fun x hx => by
              obtain ⟨i, hi, rfl⟩ := List.mem_map.1 hx
              have hi := List.mem_range.1 hi
              rw [(hX i hi).2.2.1, hcl i hi]) (fun hne => ?_) (fun i j x d hx hd => by
              obtain ⟨hi, rfl⟩ := hget hx
              exact ⟨(key i j d hi hd).1, (key i j d hi hd).2.1⟩) (fun i j x d hx hd => by
              obtain ⟨hi, rfl⟩ := hget hx
              exact (key i j d hi hd).2.2)
          · simpa using this
          · refine ⟨fun h => h, ?_⟩
            have h0 : 0 < len := by
              rcases Nat.eq_zero_or_pos len with h | h
              · exact absurd (by simp [h]) hne
              · exact h
            have hc := (World.cells?_some (hX 0 h0).1).2
            have := hc.2 0 hp.2
            rw [List.getElem?_eq_getElem (by omega)] at this
            have := block_lt_of_cell this
            rwa [Addr.block_add, Addr.block_add] at this
    · rename_i fs hu
      obtain ⟨xs, m, hm, hxe, hl, hxs, hf⟩ := DataW.trod_struct hu h
      obtain rfl : m = n := by omega
      subst hxe
      simp only [DataW.weights, hu] at hwt
      simp only [Bool.and_eq_true, List.all_eq_true, beq_iff_eq] at hp
      obtain ⟨parts, hpl, hpt, hr⟩ := parts_of (P := P) (w := w) (T := fun f ds => TypedS P m f.type ds) (cs := cs) fs.toList 0 (by rw [hp.2, hl]) (fun f hfm => by
        obtain ⟨i, hi, hfi⟩ := List.mem_iff_getElem.1 hfm
        have hfi' : fs[i]? = some f := by
          rw [← Array.getElem?_toList, List.getElem?_eq_getElem hi, hfi]
        have h1 := hf i f hfi'
        have hix : i < xs.length := by rw [hxs]; simpa using hi
        rw [List.getElem?_eq_getElem hix] at h1
        refine ih _ _ _ (hp.1 f hfm) h1 (fun k hk => hwt k ?_)
        exact DataW.weights_mem_each (ts := fs.toList.map (·.type)) (ds := xs.map (·.1)) (j := i) (t := f.type) (d := (xs[i]).1) (by rw [List.getElem?_map, Array.getElem?_toList, hfi']; rfl) (by rw [List.getElem?_map, List.getElem?_eq_getElem hix]; rfl) k hk)
      exact ⟨_, tsF hu (by simpa using hpl) (fun i f p h1 h2 => hpt i f p (by rw [Array.getElem?_toList]; exact h1) h2), by simpa using hr⟩
    · cases hp
theorem argRepS {H : Type} {enc : TypeId × Value → H} {P : Program} {w : World} {held : Bool} {ts : List Nat} {t e : Nat} {v : Value} {d : DataW H} {ps : List MemPlace} {r : Reach} {base : Nat} (hu : P.underlying t = some (.slice e))
    (hps : plainS P ts = true) (hp : ts.contains t = true) (hv : Value.okWide P w r base t v) (hwt : ∀ m ∈ d.weights P t, m ≤ reachBytes) (h : DataW.Trod enc P w 0 (fun _ => true) held t v d ps) : ∃ d', (∃ n, TypedS P n t [d']) ∧ Rep w no d' v := by
  obtain ⟨fuel, h⟩ := h
  obtain ⟨ds, ht, hr⟩ := trodRepS hps fuel t _ _ hp h hwt
  have hagg : v.cells.toList = [v] := by
    cases v with
    | agg cs => exfalso; unfold Value.okWide at hv; rw [hu] at hv; unfold Cell.okWide Cell.ok at hv; revert hv; simp [hu]
    | _ => rfl
  rw [hagg] at hr
  obtain ⟨d, rfl⟩ := List.length_eq_one_iff.1 hr.1
  exact ⟨d, ⟨fuel, ht⟩, (hr.2 0 d v rfl rfl).2⟩
def TypedSAll (P : Program) (n : Nat) : List Nat → List (List D) → Prop
  | [], [] => True
  | t :: ts, p :: ps => TypedS P n t p ∧ TypedSAll P n ts ps
  | _, _ => False
theorem typedSAll_of {P : Program} {n : Nat} : ∀ (fs : List Field) (ps : List (List D)), ps.length = fs.length → (∀ (i : Nat) (f : Field) (p : List D), fs[i]? = some f → ps[i]? = some p → TypedS P n f.type p) →
    TypedSAll P n (fs.map (·.type)) ps
  | [], [], _, _ => trivial
  | f :: fs, p :: ps, hl, h => ⟨h 0 f p rfl rfl, typedSAll_of fs ps (by simpa using hl) (fun i f p h1 h2 => h (i + 1) f p (by simpa using h1) (by simpa using h2))⟩
  | [], _ :: _, hl, _ => by simp at hl
  | _ :: _, [], hl, _ => by simp at hl
theorem tys_int {P : Program} {n : Nat} {t : Nat} {ds : List D} (hu : P.underlying t = some (.int .i64)) (h : TypedS P n t ds) : ∃ x, ds = [.v (.int .i64 x)] ∧ I64 x := by
  cases n with
  | zero => exact h.elim
  | succ n =>
  simp only [TypedS, hu] at h
  obtain ⟨x, rfl, hw⟩ := h
  exact ⟨x, rfl, by simp [Lit.wf, IntKind.min, IntKind.max, IntKind.signed, IntKind.bits] at hw; unfold I64; omega⟩
theorem tys_bool {P : Program} {n : Nat} {t : Nat} {ds : List D} (hu : P.underlying t = some .bool) (h : TypedS P n t ds) : ∃ b, ds = [.v (.bool b)] := by
  cases n with
  | zero => exact h.elim
  | succ n => simpa only [TypedS, hu] using h
theorem tys_str {P : Program} {n : Nat} {t : Nat} {ds : List D} (hu : P.underlying t = some .string) (h : TypedS P n t ds) : ∃ s : ByteArray, ds = [.v (.string s)] ∧ s.size ≤ maxLen := by
  cases n with
  | zero => exact h.elim
  | succ n => simpa only [TypedS, hu] using h
theorem tys_sl {P : Program} {n : Nat} {t e es by_ : Nat} {ds : List D} (hu : P.underlying t = some (.slice e)) (hes : P.cellsOf e = es) (hby : P.bytesOf e = by_) (h : TypedS P n t ds) :
    ∃ m xs, n = m + 1 ∧ ds = [.sl es xs] ∧ xs.length ≤ 9223372036854775807 ∧ xs.length * by_ ≤ 140737488355328 ∧ ∀ x ∈ xs, TypedS P m e x ∧ x.length = es := by
  cases n with
  | zero => exact h.elim
  | succ n =>
  simp only [TypedS, hu] at h
  obtain ⟨xs, rfl, hl, hx⟩ := h
  subst hes; subst hby
  exact ⟨n, xs, rfl, rfl, by have := hl.1; unfold maxLen at this; omega, by have := hl.2; unfold reachBytes at this; omega, hx⟩
theorem tys_st {P : Program} {n : Nat} {t : Nat} {ds : List D} {fs : Array Field} {ts : List Nat} (hu : P.underlying t = some (.struct fs)) (hts : fs.toList.map (·.type) = ts) (h : TypedS P n t ds) :
    ∃ (m : Nat) (ps : List (List D)), n = m + 1 ∧ ds = ps.flatten ∧ TypedSAll P m ts ps := by
  cases n with
  | zero => exact h.elim
  | succ n =>
  simp only [TypedS, hu] at h
  obtain ⟨ps, rfl, hl, hi⟩ := h
  exact ⟨n, ps, rfl, rfl, hts ▸ typedSAll_of fs.toList ps (by simpa using hl) (fun i f p h1 h2 => hi i f p (by rwa [Array.getElem?_toList] at h1) h2)⟩
theorem alls_cons {P : Program} {n : Nat} {t : Nat} {ts : List Nat} {ps : List (List D)} (h : TypedSAll P n (t :: ts) ps) : ∃ p qs, ps = p :: qs ∧ TypedS P n t p ∧ TypedSAll P n ts qs := by
  cases ps with
  | nil => exact h.elim
  | cons p qs => exact ⟨p, qs, rfl, h⟩
theorem alls_nil {P : Program} {n : Nat} {ps : List (List D)} (h : TypedSAll P n [] ps) : ps = [] := by
  cases ps with
  | nil => rfl
  | cons p qs => exact h.elim
end Go.Ob
/- Ranges over strings; strings joined; strings of bytes. -/
set_option linter.unusedVariables false
set_option linter.unusedSimpArgs false
set_option linter.unusedSectionVars false
namespace Go.Ob
open Go.RowKit
section
variable {K : Ctx} {Q : Exit → Env → Hp → Prop} {env : Env} {H H' : Hp} {ops : Array Oper} {rest : List Oper} {t : Nat} {ty : TypeId} {pos : String} {af : Array Edge}
theorem own_perm {H H' : Hp} (h : H.Perm H') (g : Nat) : own H g ↔ own H' g :=
  ⟨fun ⟨b, hb, hg⟩ => ⟨b, h.mem_iff.1 hb, hg⟩, fun ⟨b, hb, hg⟩ => ⟨b, h.mem_iff.2 hb, hg⟩⟩
theorem Sat.perm {a : Act} {w : World} (h : Sat K env H a w) (hp : H.Perm H') : Sat K env H' a w := by
  have ho : ∀ g, both K.F H' g → both K.F H g := fun g hg => hg.imp id (own_perm hp g).2
  refine ⟨fun t d hd => let ⟨u, hu, hr⟩ := h.tmps t d hd; ⟨u, hu, hr.fewer ho⟩, h.size, h.defers, ⟨fun b hb => Blk.ok_fewer (h.heap.each b (hp.mem_iff.2 hb)) ho, ?_⟩, h.kept, fun g hg => h.fresh g ((own_perm hp g).2 hg), h.foreign⟩
  exact hp.pairwise h.heap.apart (fun {x y} hxy g hy hx => hxy g hx hy)
theorem TL.perm {l : List Oper} (hp : H.Perm H') (h : TL K ops l Q env H') : TL K ops l Q env H := fun a w hs => h a w (hs.perm hp)
theorem TC.perm {c : Code} (hp : H.Perm H') (h : TC K c Q env H') : TC K c Q env H := TC.view (fun _ _ hs => hs.perm hp) h
end
section
variable {P : Program} {H : Hp} {env : Env} {dst : Option Tmp} {ty : TypeId} {pos : String} {af : Array Edge} {gd : Option (Nat × Bool)} {x y : Operand} {t t2 : TypeId}
end
end Go.Ob
/- Iterators that turn a captured variable: the box is handed to them. -/
set_option linter.unusedVariables false
set_option linter.unusedSimpArgs false
set_option linter.unusedSectionVars false
namespace Go.Ob
open Go.RowKit
section
variable {K : Ctx} {Q : Exit → Env → Hp → Prop} {env : Env} {H H1 H2 H1' : Hp} {ops : Array Oper} {rest : List Oper} {dst : Option Nat} {ty : TypeId} {pos : String} {af : Array Edge}
end
def SeqB (P : Program) (f : FuncId) (g T : Nat) (cs : List D) (xs : List (List D)) : Prop :=
  ∀ (l : Nat) (J Jx : Nat → Hp → Prop) (w1 : World) (F1 : Nat → Prop) (H0 : Hp), HeapOK w1 (both F1 (.box g T cs :: H0)) (.box g T cs :: H0) → Foreign P F1 w1 (own (.box g T cs :: H0)) → J 0 H0 →
    (∀ k x H, xs[k]? = some x → J k H → YieldD P l x H (fun b H' => if b = true then J (k + 1) H' else Jx (k + 1) H') w1 (own (.box g T cs :: H0)) F1) →
    Calls P f #[.func (.yield l) #[] #[], .pointer (some ⟨g, 0, none⟩)] w1 fun e w' => ∃ v H', e = .returned v ∧ (J xs.length H' ∨ ∃ k, Jx k H') ∧ HeapOK w' (both F1 H') H' ∧ Kept (own (.box g T cs :: H0)) w1 w' ∧ ∀ g', own H' g' → own (.box g T cs :: H0) g' ∨ w1.heap.size ≤ g'
theorem HeapOK.swap {w : World} {o : Nat → Prop} {a b : Blk} {H : Hp} (h : HeapOK w o (a :: b :: H)) : HeapOK w o (b :: a :: H) :=
  ⟨fun x hx => h.each x ((List.Perm.swap _ _ _).mem_iff.1 hx), (List.Perm.swap b a H).pairwise h.apart (fun {x y} hxy g hy hx => hxy g hx hy)⟩
theorem SeqB.enter {P : Program} {f n : Nat} {fn : Func} {c : Code} {g T : Nat} {cs : List D} {xs : List (List D)} (hf : P.funcs[f]? = some fn) (hb : fn.body = some c) (hn : fn.ntmps = n) (hr : fn.results = #[]) (hl : Nat.ble 2 n = true)
    (h : ∀ (l : Nat) (J Jx : Nat → Hp → Prop) (w : World) (F : Nat → Prop) (H0 : Hp), J 0 H0 → (∀ k x H, xs[k]? = some x → J k H → YieldD P l x H (fun b H' => if b = true then J (k + 1) H' else Jx (k + 1) H') w (own (.box g T cs :: H0)) F) →
      TC ⟨P, n, w, F, own (.box g T cs :: H0), none⟩ c (RetA P #[] (fun _ H' => J xs.length H' ∨ ∃ k, Jx k H')) (Env.args 0 [.v (.func (.yield l) #[] #[]), .v (.pointer (some ⟨g, 0, none⟩))]) (.box g T cs :: H0)) : SeqB P f g T cs xs := by
  subst hn
  intro l J Jx w1 F1 H0 hh hF h0 hy
  have hb' : 2 ≤ fn.ntmps := Nat.le_of_ble_eq_true hl
  refine (calls_of_body (ds := [.v (.func (.yield l) #[] #[]), .v (.pointer (some ⟨g, 0, none⟩))]) (vs := [.func (.yield l) #[] #[], .pointer (some ⟨g, 0, none⟩)]) hf hb (by simpa using hb') (hr ▸ h l J Jx w1 F1 H0 h0 hy) (by simp) (fun j d u hd hu => ?_) hh hF).mono ?_
  · match j with
    | 0 => simp at hd hu; subst hd; subst hu; exact .v _
    | 1 => simp at hd hu; subst hd; subst hu; exact .v _
    | j + 2 => simp at hd
  · rintro e w' ⟨v, r, H', rfl, hR, _, h1, h2, h3⟩
    exact ⟨v, H', rfl, hR, h1, h2, h3⟩
end Go.Ob
