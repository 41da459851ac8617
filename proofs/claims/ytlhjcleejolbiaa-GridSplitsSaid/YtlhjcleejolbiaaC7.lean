import Derived.Test.YtlhjcleejolbiaaN7
import Derived.Test.YtlhjcleejolbiaaW4
set_option linter.unusedVariables false
set_option linter.unusedSimpArgs false
namespace Go.Ob
open Go.Proofs
theorem placeQ_bound {rs : List RowD} (hl : rs.length ≤ 2000) (row cell : Int) : -100000 ≤ (placeR rs row cell).right - (placeR rs row cell).left - 1 ∧ (placeR rs row cell).right - (placeR rs row cell).left - 1 ≤ 100000 ∧ 0 ≤ (placeR rs row cell).bottom - (placeR rs row cell).top ∧ (placeR rs row cell).bottom - (placeR rs row cell).top ≤ 2000 ∧ 0 ≤ nnQ (placeR rs row cell) ∧ nnQ (placeR rs row cell) ≤ 62000 ∧ 0 ≤ (placeR rs row cell).top ∧ (placeR rs row cell).top ≤ 2000 ∧ 0 ≤ (placeR rs row cell).bottom ∧ (placeR rs row cell).bottom ≤ 2000 ∧ 0 ≤ (placeR rs row cell).left ∧ (placeR rs row cell).left ≤ 32 ∧ 0 ≤ (placeR rs row cell).right ∧ (placeR rs row cell).right ≤ 32 := by
  by_cases h : existsN rs row cell ∧ (spN rs row cell).1 ≠ (spN rs row cell).2
  · have hv : Val rs row cell := place_val.2 h
    have heq : placeR rs row cell = rectN rs row cell := by unfold placeR; rw [if_pos h]
    rw [heq]
    obtain ⟨q1, q2, q3, q4, q5, q6, q7, q8, q9⟩ := rect_range hv
    have hm0 : 0 ≤ ((rectN rs row cell).right - (rectN rs row cell).left - 1) * ((rectN rs row cell).bottom - (rectN rs row cell).top) := Int.mul_nonneg (by omega) (by omega)
    have hm1 : ((rectN rs row cell).right - (rectN rs row cell).left - 1) * ((rectN rs row cell).bottom - (rectN rs row cell).top) ≤ 31 * 2000 := Int.mul_le_mul (by omega) (by omega) (by omega) (by omega)
    unfold nnQ
    refine ⟨?_, ?_, ?_, ?_, ?_, ?_, ?_, ?_, ?_, ?_, ?_, ?_, ?_, ?_⟩ <;> omega
  · have heq : placeR rs row cell = q0 := by unfold placeR; rw [if_neg h]
    rw [heq]
    decide
set_option maxHeartbeats 1000000 in
set_option maxRecDepth 100000 in
theorem GridSplits_spec (I : List D → Prop) (hI : ∀ x, I x → Fun Try.prog 86 [.agg x] (.agg x)) (rs : List RowD) (hB : TabB I rs) (hT : TabT rs) (row cell fresh : Int) : Fun Try.prog 10 [.sl 6 (encRs rs), .agg [.v (.int .i64 row), .v (.int .i64 cell), .v (.int .i64 fresh)]] (.v (.bool true)) := by
  refine Fun.enter (n := 175) (rs := [.tmp 4]) Try.func10 rfl Try.ntmps10 Try.results10 rfl (fun w F => ?_)
  have hk := encRs_len rs
  refine TC.seq ?_
  refine TC.region ?_
  refine TL.box rfl (.agg _) rfl (fun g3 => ?_)
  refine TL.run1 (pure_assign rfl) rfl ?_
  refine TL.nil' ?_
  refine TC.seq ?_
  refine TC.regionCut [18, 19, 20, 21, 22, 23, 24] 24 (smallB rs = false) ?_ ?_
  · skip
    refine TL.run1 (pure_call (known_spec) .nil Try.call12) rfl ?_
    refine TL.run1 (pure_not rfl) rfl ?_
    refine TL.run1 (pure_move rfl) rfl ?_
    first | refine TL.splitP 20 rfl (fun hg20 => ?_) (fun hg20 => ?_) | refine TL.split 20 rfl (fun hg20 => ?_) (fun hg20 => ?_)
    · try dsimp only at hg20
      refine TL.passG rfl rfl rfl rfl ?_
      refine TL.passG rfl rfl rfl rfl ?_
      refine TL.passG rfl rfl rfl rfl ?_
      refine TL.run1 (pure_pick_true rfl rfl) rfl ?_
      refine TL.cutEnd (by repeat (first | exact Same.refl _ _ | refine Same.put rfl ?_)) rfl ?_
      first | (simp only [decide_eq_true_eq, Bool.false_eq_true, false_iff, true_iff, iff_true, iff_false, Bool.not_eq_true]; omega) | (simp_all; done) | (simp_all; omega) | grind
    · try dsimp only at hg20
      refine TL.runG rfl rfl (pure_move rfl) rfl ?_
      refine TL.runG rfl rfl (pure_call (Small_spec _) (.cons rfl .nil) Try.call13) rfl ?_
      refine TL.runG rfl rfl (pure_not rfl) rfl ?_
      refine TL.run1 (pure_pick_false rfl rfl) rfl ?_
      refine TL.cutEnd (by repeat (first | exact Same.refl _ _ | refine Same.put rfl ?_)) rfl ?_
      first | (simp only [decide_eq_true_eq, Bool.false_eq_true, false_iff, true_iff, iff_true, iff_false, Bool.not_eq_true]; omega) | (simp_all; done) | (simp_all; omega) | grind
  first | refine TC.condD rfl (fun hc24 => ?_) (fun hc24 => ?_) | refine TC.condN rfl (fun hc24 => ?_) (fun hc24 => ?_) | refine TC.cond rfl (fun hc24 => ?_) (fun hc24 => ?_)
  · try dsimp only at hc24
    refine TC.seq ?_
    refine TC.region ?_
    refine TL.run1 (pure_call (known_spec) .nil Try.call12) rfl ?_
    refine TL.run1 (pure_assign rfl) rfl ?_
    refine TL.nil' ?_
    refine TC.ret ?_
    refine then_ret ?_
    exact ret_bool rfl rfl
  · try dsimp only at hc24
    have hsm : SmallT rs := (smallB_iff rs).1 (by simpa using hc24)
    have hr := hsm.ok
    have hl : rs.length ≤ 2000 := by have := hsm.1; omega
    have hb : -100000 ≤ (placeR rs row cell).right - (placeR rs row cell).left - 1 ∧ (placeR rs row cell).right - (placeR rs row cell).left - 1 ≤ 100000 ∧ 0 ≤ (placeR rs row cell).bottom - (placeR rs row cell).top ∧ (placeR rs row cell).bottom - (placeR rs row cell).top ≤ 2000 ∧ 0 ≤ nnQ (placeR rs row cell) ∧ nnQ (placeR rs row cell) ≤ 62000 ∧ 0 ≤ (placeR rs row cell).top ∧ (placeR rs row cell).top ≤ 2000 ∧ 0 ≤ (placeR rs row cell).bottom ∧ (placeR rs row cell).bottom ≤ 2000 ∧ 0 ≤ (placeR rs row cell).left ∧ (placeR rs row cell).left ≤ 32 ∧ 0 ≤ (placeR rs row cell).right ∧ (placeR rs row cell).right ≤ 32 := placeQ_bound hl row cell
    obtain ⟨b1, b2, b3, b4, b5, b6, b7, b8, b9, b10, b11, b12, b13, b14⟩ := hb
    unfold nnQ at b5 b6
    refine TC.skip' ?_
    refine TC.seq ?_
    refine TC.region ?_
    refine TL.run1 (pure_move rfl) rfl ?_
    first | refine TL.run1 (pure_fieldAddr Ty.f62_0 rfl (.zero _) (List.cons_ne_nil _ _)) rfl ?_ | refine TL.run1 (pure_fieldAddr_own Ty.f62_0 rfl) rfl ?_
    first | refine TL.run1 (pure_load1 Ty.one3 rfl) rfl ?_ | refine TL.run1 (pure_load1_own Ty.one3 rfl (by repeat (first | exact List.Mem.head _ | apply List.Mem.tail)) (by repeat (first | exact DropR.zero _ | apply DropR.succ))) rfl ?_
    first | refine TL.run1 (pure_fieldAddr Ty.f62_1 rfl (.succ (.zero _)) (List.cons_ne_nil _ _)) rfl ?_ | refine TL.run1 (pure_fieldAddr_own Ty.f62_1 rfl) rfl ?_
    first | refine TL.run1 (pure_load1 Ty.one3 rfl) rfl ?_ | refine TL.run1 (pure_load1_own Ty.one3 rfl (by repeat (first | exact List.Mem.head _ | apply List.Mem.tail)) (by repeat (first | exact DropR.zero _ | apply DropR.succ))) rfl ?_
    first | refine TL.run1 (pure_fieldAddr Ty.f62_2 rfl (.succ (.succ (.zero _))) (List.cons_ne_nil _ _)) rfl ?_ | refine TL.run1 (pure_fieldAddr_own Ty.f62_2 rfl) rfl ?_
    first | refine TL.run1 (pure_load1 Ty.one3 rfl) rfl ?_ | refine TL.run1 (pure_load1_own Ty.one3 rfl (by repeat (first | exact List.Mem.head _ | apply List.Mem.tail)) (by repeat (first | exact DropR.zero _ | apply DropR.succ))) rfl ?_
    refine TL.run1 (pure_call (GSplit_spec I hI rs hr hl hB row cell fresh) (.cons rfl (.cons rfl (.cons rfl (.cons rfl .nil)))) Try.call29) rfl ?_
    refine TL.run1 (pure_move rfl) rfl ?_
    refine TL.run1 (pure_extract rfl rfl) rfl ?_
    refine TL.run1 (pure_extract rfl rfl) rfl ?_
    refine TL.run1 (pure_assign rfl) rfl ?_
    refine TL.run1 (pure_assign rfl) rfl ?_
    refine TL.nil' ?_
    refine TC.seq ?_
    refine TC.region ?_
    refine TL.run1 (pure_move rfl) rfl ?_
    first | refine TL.run1 (pure_fieldAddr Ty.f62_0 rfl (.zero _) (List.cons_ne_nil _ _)) rfl ?_ | refine TL.run1 (pure_fieldAddr_own Ty.f62_0 rfl) rfl ?_
    first | refine TL.run1 (pure_load1 Ty.one3 rfl) rfl ?_ | refine TL.run1 (pure_load1_own Ty.one3 rfl (by repeat (first | exact List.Mem.head _ | apply List.Mem.tail)) (by repeat (first | exact DropR.zero _ | apply DropR.succ))) rfl ?_
    first | refine TL.run1 (pure_fieldAddr Ty.f62_1 rfl (.succ (.zero _)) (List.cons_ne_nil _ _)) rfl ?_ | refine TL.run1 (pure_fieldAddr_own Ty.f62_1 rfl) rfl ?_
    first | refine TL.run1 (pure_load1 Ty.one3 rfl) rfl ?_ | refine TL.run1 (pure_load1_own Ty.one3 rfl (by repeat (first | exact List.Mem.head _ | apply List.Mem.tail)) (by repeat (first | exact DropR.zero _ | apply DropR.succ))) rfl ?_
    refine TL.run1 (pure_call (place_spec rs hr row cell) (.cons rfl (.cons rfl (.cons rfl .nil))) Try.call15) rfl ?_
    refine TL.run1 (pure_move rfl) rfl ?_
    refine TL.run1 (pure_extract rfl rfl) rfl ?_
    refine TL.run1 (pure_extract rfl rfl) rfl ?_
    refine TL.alloc Ty.zero40 rfl (fun g7 => ?_)
    refine TL.store rfl rfl (.agg _) Try.sizeOf40 rfl (by repeat (first | exact UpdR.here _ | apply UpdR.there)) (by repeat (first | exact PutR.nil _ | apply PutR.here | apply PutR.skip)) ?_
    refine TL.run1 (pure_assign rfl) rfl ?_
    refine TL.nil' ?_
    refine TC.seq ?_
    refine TC.freezeBox 7 (List.cons_ne_nil _ _) (.here _) rfl ?_
    refine TC.freezeBox 3 (List.cons_ne_nil _ _) (.here _) rfl ?_
    refine TC.region ?_
    first | refine TL.run1 (pure_fieldAddr Ty.f40_2 rfl (.succ (.succ (.zero _))) (List.cons_ne_nil _ _)) rfl ?_ | refine TL.run1 (pure_fieldAddr_own Ty.f40_2 rfl) rfl ?_
    first | refine TL.run1 (pure_fieldAddr Ty.f38_3 rfl (.succ (.succ (.succ (.zero _)))) (List.cons_ne_nil _ _)) rfl ?_ | refine TL.run1 (pure_fieldAddr_own Ty.f38_3 rfl) rfl ?_
    first | refine TL.run1 (pure_load1 Ty.one3 rfl) rfl ?_ | refine TL.run1 (pure_load1_own Ty.one3 rfl (by repeat (first | exact List.Mem.head _ | apply List.Mem.tail)) (by repeat (first | exact DropR.zero _ | apply DropR.succ))) rfl ?_
    first | refine TL.run1 (pure_fieldAddr Ty.f40_2 rfl (.succ (.succ (.zero _))) (List.cons_ne_nil _ _)) rfl ?_ | refine TL.run1 (pure_fieldAddr_own Ty.f40_2 rfl) rfl ?_
    first | refine TL.run1 (pure_fieldAddr Ty.f38_1 rfl (.succ (.zero _)) (List.cons_ne_nil _ _)) rfl ?_ | refine TL.run1 (pure_fieldAddr_own Ty.f38_1 rfl) rfl ?_
    first | refine TL.run1 (pure_load1 Ty.one3 rfl) rfl ?_ | refine TL.run1 (pure_load1_own Ty.one3 rfl (by repeat (first | exact List.Mem.head _ | apply List.Mem.tail)) (by repeat (first | exact DropR.zero _ | apply DropR.succ))) rfl ?_
    refine TL.run1 (pure_sub rfl rfl (mkI64 (by omega) (by omega))) rfl ?_
    refine TL.run1 (pure_sub rfl rfl (mkI64 (by omega) (by omega))) rfl ?_
    first | refine TL.run1 (pure_fieldAddr Ty.f40_2 rfl (.succ (.succ (.zero _))) (List.cons_ne_nil _ _)) rfl ?_ | refine TL.run1 (pure_fieldAddr_own Ty.f40_2 rfl) rfl ?_
    first | refine TL.run1 (pure_fieldAddr Ty.f38_2 rfl (.succ (.succ (.zero _))) (List.cons_ne_nil _ _)) rfl ?_ | refine TL.run1 (pure_fieldAddr_own Ty.f38_2 rfl) rfl ?_
    first | refine TL.run1 (pure_load1 Ty.one3 rfl) rfl ?_ | refine TL.run1 (pure_load1_own Ty.one3 rfl (by repeat (first | exact List.Mem.head _ | apply List.Mem.tail)) (by repeat (first | exact DropR.zero _ | apply DropR.succ))) rfl ?_
    first | refine TL.run1 (pure_fieldAddr Ty.f40_2 rfl (.succ (.succ (.zero _))) (List.cons_ne_nil _ _)) rfl ?_ | refine TL.run1 (pure_fieldAddr_own Ty.f40_2 rfl) rfl ?_
    first | refine TL.run1 (pure_fieldAddr Ty.f38_0 rfl (.zero _) (List.cons_ne_nil _ _)) rfl ?_ | refine TL.run1 (pure_fieldAddr_own Ty.f38_0 rfl) rfl ?_
    first | refine TL.run1 (pure_load1 Ty.one3 rfl) rfl ?_ | refine TL.run1 (pure_load1_own Ty.one3 rfl (by repeat (first | exact List.Mem.head _ | apply List.Mem.tail)) (by repeat (first | exact DropR.zero _ | apply DropR.succ))) rfl ?_
    refine TL.run1 (pure_sub rfl rfl (mkI64 (by omega) (by omega))) rfl ?_
    refine TL.run1 (pure_mul rfl rfl (mkI64 (by omega) (by omega))) rfl ?_
    refine TL.run1 (pure_assign rfl) rfl ?_
    refine TL.nil' ?_
    refine TC.seq ?_
    refine TC.regionCut [62, 63, 64, 65, 66, 67, 68, 69, 70, 71, 72, 73, 74, 75, 76, 77, 78, 79, 80, 81, 82, 83, 84, 85] 85 ((placeE rs row cell = 0 ∧ (fresh < 1 ∨ fresh > 1073741824 ∨ nnQ (placeR rs row cell) > 1073741824 - fresh + 1))) ?_ ?_
    · skip
      refine TL.run1 (pure_move rfl) rfl ?_
      refine TL.run1 (pure_eql rfl rfl) rfl ?_
      refine TL.run1 (pure_move rfl) rfl ?_
      first | refine TL.splitP 64 rfl (fun hg64 => ?_) (fun hg64 => ?_) | refine TL.split 64 rfl (fun hg64 => ?_) (fun hg64 => ?_)
      · try dsimp only at hg64
        first | refine TL.runG rfl rfl (pure_fieldAddr Ty.f62_2 rfl (.succ (.succ (.zero _))) (List.cons_ne_nil _ _)) rfl ?_ | refine TL.runG rfl rfl (pure_fieldAddr_own Ty.f62_2 rfl) rfl ?_
        first | refine TL.runG rfl rfl (pure_load1 Ty.one3 rfl) rfl ?_ | refine TL.runG rfl rfl (pure_load1_own Ty.one3 rfl (by repeat (first | exact List.Mem.head _ | apply List.Mem.tail)) (by repeat (first | exact DropR.zero _ | apply DropR.succ))) rfl ?_
        refine TL.runG rfl rfl (pure_lss rfl rfl) rfl ?_
        refine TL.runG rfl rfl (pure_move rfl) rfl ?_
        first | refine TL.splitP 68 rfl (fun hg68 => ?_) (fun hg68 => ?_) | refine TL.split 68 rfl (fun hg68 => ?_) (fun hg68 => ?_)
        · try dsimp only at hg68
          refine TL.passG rfl rfl rfl rfl ?_
          refine TL.passG rfl rfl rfl rfl ?_
          refine TL.passG rfl rfl rfl rfl ?_
          refine TL.runG rfl rfl (pure_pick_true rfl rfl) rfl ?_
          refine TL.runG rfl rfl (pure_move rfl) rfl ?_
          refine TL.passG rfl rfl rfl rfl ?_
          refine TL.passG rfl rfl rfl rfl ?_
          refine TL.passG rfl rfl rfl rfl ?_
          refine TL.passG rfl rfl rfl rfl ?_
          refine TL.passG rfl rfl rfl rfl ?_
          refine TL.passG rfl rfl rfl rfl ?_
          refine TL.passG rfl rfl rfl rfl ?_
          refine TL.passG rfl rfl rfl rfl ?_
          refine TL.passG rfl rfl rfl rfl ?_
          refine TL.passG rfl rfl rfl rfl ?_
          refine TL.runG rfl rfl (pure_pick_true rfl rfl) rfl ?_
          refine TL.run1 (pure_pick_true rfl rfl) rfl ?_
          refine TL.cutEnd (by repeat (first | exact Same.refl _ _ | refine Same.put rfl ?_)) rfl ?_
          unfold nnQ
          first | (simp only [decide_eq_true_eq, Bool.false_eq_true, false_iff, true_iff, iff_true, iff_false, Bool.not_eq_true]; omega) | (simp_all; done) | (simp_all; omega) | grind
        · try dsimp only at hg68
          first | refine TL.runG rfl rfl (pure_fieldAddr Ty.f62_2 rfl (.succ (.succ (.zero _))) (List.cons_ne_nil _ _)) rfl ?_ | refine TL.runG rfl rfl (pure_fieldAddr_own Ty.f62_2 rfl) rfl ?_
          first | refine TL.runG rfl rfl (pure_load1 Ty.one3 rfl) rfl ?_ | refine TL.runG rfl rfl (pure_load1_own Ty.one3 rfl (by repeat (first | exact List.Mem.head _ | apply List.Mem.tail)) (by repeat (first | exact DropR.zero _ | apply DropR.succ))) rfl ?_
          refine TL.runG rfl rfl (pure_gtr rfl rfl) rfl ?_
          refine TL.runG rfl rfl (pure_pick_false rfl rfl) rfl ?_
          refine TL.runG rfl rfl (pure_move rfl) rfl ?_
          first | refine TL.splitP 73 rfl (fun hg73 => ?_) (fun hg73 => ?_) | refine TL.split 73 rfl (fun hg73 => ?_) (fun hg73 => ?_)
          · try dsimp only at hg73
            refine TL.passG rfl rfl rfl rfl ?_
            refine TL.passG rfl rfl rfl rfl ?_
            refine TL.passG rfl rfl rfl rfl ?_
            refine TL.passG rfl rfl rfl rfl ?_
            refine TL.passG rfl rfl rfl rfl ?_
            refine TL.passG rfl rfl rfl rfl ?_
            refine TL.passG rfl rfl rfl rfl ?_
            refine TL.passG rfl rfl rfl rfl ?_
            refine TL.passG rfl rfl rfl rfl ?_
            refine TL.passG rfl rfl rfl rfl ?_
            refine TL.runG rfl rfl (pure_pick_true rfl rfl) rfl ?_
            refine TL.run1 (pure_pick_true rfl rfl) rfl ?_
            refine TL.cutEnd (by repeat (first | exact Same.refl _ _ | refine Same.put rfl ?_)) rfl ?_
            unfold nnQ
            first | (simp only [decide_eq_true_eq, Bool.false_eq_true, false_iff, true_iff, iff_true, iff_false, Bool.not_eq_true]; omega) | (simp_all; done) | (simp_all; omega) | grind
          · try dsimp only at hg73
            refine TL.runG rfl rfl (pure_move rfl) rfl ?_
            refine TL.runG rfl rfl (pure_gtr rfl rfl) rfl ?_
            refine TL.runG rfl rfl (pure_move rfl) rfl ?_
            first | refine TL.splitP 76 rfl (fun hg76 => ?_) (fun hg76 => ?_) | refine TL.split 76 rfl (fun hg76 => ?_) (fun hg76 => ?_)
            · try dsimp only at hg76
              first | refine TL.runG rfl rfl (pure_fieldAddr Ty.f62_2 rfl (.succ (.succ (.zero _))) (List.cons_ne_nil _ _)) rfl ?_ | refine TL.runG rfl rfl (pure_fieldAddr_own Ty.f62_2 rfl) rfl ?_
              first | refine TL.runG rfl rfl (pure_load1 Ty.one3 rfl) rfl ?_ | refine TL.runG rfl rfl (pure_load1_own Ty.one3 rfl (by repeat (first | exact List.Mem.head _ | apply List.Mem.tail)) (by repeat (first | exact DropR.zero _ | apply DropR.succ))) rfl ?_
              refine TL.runG rfl rfl (pure_move rfl) rfl ?_
              refine TL.runG rfl rfl (pure_add rfl rfl (mkI64 (by omega) (by omega))) rfl ?_
              refine TL.runG rfl rfl (pure_sub rfl rfl (mkI64 (by omega) (by omega))) rfl ?_
              refine TL.runG rfl rfl (pure_gtr rfl rfl) rfl ?_
              refine TL.runG rfl rfl (pure_pick_true rfl rfl) rfl ?_
              refine TL.runG rfl rfl (pure_pick_false rfl rfl) rfl ?_
              refine TL.run1 (pure_pick_true rfl rfl) rfl ?_
              refine TL.cutEnd (by repeat (first | exact Same.refl _ _ | refine Same.put rfl ?_)) rfl ?_
              unfold nnQ
              first | (simp only [decide_eq_true_eq, Bool.false_eq_true, false_iff, true_iff, iff_true, iff_false, Bool.not_eq_true]; omega) | (simp_all; done) | (simp_all; omega) | grind
            · try dsimp only at hg76
              refine TL.passG rfl rfl rfl rfl ?_
              refine TL.passG rfl rfl rfl rfl ?_
              refine TL.passG rfl rfl rfl rfl ?_
              refine TL.passG rfl rfl rfl rfl ?_
              refine TL.passG rfl rfl rfl rfl ?_
              refine TL.passG rfl rfl rfl rfl ?_
              refine TL.runG rfl rfl (pure_pick_false rfl rfl) rfl ?_
              refine TL.runG rfl rfl (pure_pick_false rfl rfl) rfl ?_
              refine TL.run1 (pure_pick_true rfl rfl) rfl ?_
              refine TL.cutEnd (by repeat (first | exact Same.refl _ _ | refine Same.put rfl ?_)) rfl ?_
              unfold nnQ
              first | (simp only [decide_eq_true_eq, Bool.false_eq_true, false_iff, true_iff, iff_true, iff_false, Bool.not_eq_true]; omega) | (simp_all; done) | (simp_all; omega) | grind
      · try dsimp only at hg64
        refine TL.passG rfl rfl rfl rfl ?_
        refine TL.passG rfl rfl rfl rfl ?_
        refine TL.passG rfl rfl rfl rfl ?_
        refine TL.passG rfl rfl rfl rfl ?_
        refine TL.passG rfl rfl rfl rfl ?_
        refine TL.passG rfl rfl rfl rfl ?_
        refine TL.passG rfl rfl rfl rfl ?_
        refine TL.passG rfl rfl rfl rfl ?_
        refine TL.passG rfl rfl rfl rfl ?_
        refine TL.passG rfl rfl rfl rfl ?_
        refine TL.passG rfl rfl rfl rfl ?_
        refine TL.passG rfl rfl rfl rfl ?_
        refine TL.passG rfl rfl rfl rfl ?_
        refine TL.passG rfl rfl rfl rfl ?_
        refine TL.passG rfl rfl rfl rfl ?_
        refine TL.passG rfl rfl rfl rfl ?_
        refine TL.passG rfl rfl rfl rfl ?_
        refine TL.passG rfl rfl rfl rfl ?_
        refine TL.passG rfl rfl rfl rfl ?_
        refine TL.passG rfl rfl rfl rfl ?_
        refine TL.run1 (pure_pick_false rfl rfl) rfl ?_
        refine TL.cutEnd (by repeat (first | exact Same.refl _ _ | refine Same.put rfl ?_)) rfl ?_
        unfold nnQ
        first | (simp only [decide_eq_true_eq, Bool.false_eq_true, false_iff, true_iff, iff_true, iff_false, Bool.not_eq_true]; omega) | (simp_all; done) | (simp_all; omega) | grind
    first | refine TC.condD rfl (fun hc85 => ?_) (fun hc85 => ?_) | refine TC.condN rfl (fun hc85 => ?_) (fun hc85 => ?_) | refine TC.cond rfl (fun hc85 => ?_) (fun hc85 => ?_)
    · try dsimp only at hc85
      refine TC.region ?_
      refine TL.run1 (pure_assign rfl) rfl ?_
      refine TL.nil' ?_
      refine TC.seq ?_
      refine TC.seq ?_
      refine TC.region ?_
      refine TL.run1 (pure_move rfl) rfl ?_
      refine TL.run1 (pure_neq rfl rfl) rfl ?_
      refine TL.nil' ?_
      first | refine TC.condD rfl (fun hc87 => ?_) (fun hc87 => ?_) | refine TC.condN rfl (fun hc87 => ?_) (fun hc87 => ?_) | refine TC.cond rfl (fun hc87 => ?_) (fun hc87 => ?_)
      · try dsimp only at hc87
        have hE : splE rs row cell fresh = 18 := by (unfold splE; rw [if_neg (fun e => e hc85.1), if_pos hc85.2])
        have hV : splV rs row cell fresh = [] := splV_bad (by rw [hE]; decide)
        rw [hV, hE]
        refine TC.regionCut [88, 89, 90, 91, 92, 93, 94, 95, 4] 4 (True) ?_ ?_
        · skip
          refine TL.run1 (pure_move rfl) rfl ?_
          first | refine TL.run1 (pure_len Ty.sl22 rfl) rfl ?_ | refine TL.run1 (pure_len_row Ty.sl22 rfl (by repeat (first | exact List.Mem.head _ | apply List.Mem.tail))) rfl ?_ | refine TL.run1 (pure_len_nil Ty.sl22 rfl) rfl ?_
          refine TL.run1 (pure_eql rfl rfl) rfl ?_
          refine TL.run1 (pure_move rfl) rfl ?_
          first | refine TL.splitP 91 rfl (fun hg91 => ?_) (fun hg91 => ?_) | refine TL.split 91 rfl (fun hg91 => ?_) (fun hg91 => ?_)
          · try dsimp only at hg91
            refine TL.runG rfl rfl (pure_move rfl) rfl ?_
            refine TL.runG rfl rfl (pure_move rfl) rfl ?_
            refine TL.runG rfl rfl (pure_eql rfl rfl) rfl ?_
            refine TL.run1 (pure_pick_true rfl rfl) rfl ?_
            refine TL.run1 (pure_assign rfl) rfl ?_
            refine TL.cutEnd (by repeat (first | exact Same.refl _ _ | refine Same.put rfl ?_)) rfl ?_
            simp_all [encRs]
          · try dsimp only at hg91
            refine TL.passG rfl rfl rfl rfl ?_
            refine TL.passG rfl rfl rfl rfl ?_
            refine TL.passG rfl rfl rfl rfl ?_
            refine TL.run1 (pure_pick_false rfl rfl) rfl ?_
            refine TL.run1 (pure_assign rfl) rfl ?_
            refine TL.cutEnd (by repeat (first | exact Same.refl _ _ | refine Same.put rfl ?_)) rfl ?_
            simp_all [encRs]
        refine TC.ret ?_
        refine then_ret ?_
        exact ret_bool rfl (by simp)
      · try dsimp only at hc87
        all_goals exact absurd hc87 (by decide)
    · try dsimp only at hc85
      refine TC.skip' ?_
      refine TC.seq ?_
      refine TC.seq ?_
      refine TC.region ?_
      refine TL.run1 (pure_move rfl) rfl ?_
      refine TL.run1 (pure_neq rfl rfl) rfl ?_
      refine TL.nil' ?_
      first | refine TC.condD rfl (fun hc87 => ?_) (fun hc87 => ?_) | refine TC.condN rfl (fun hc87 => ?_) (fun hc87 => ?_) | refine TC.cond rfl (fun hc87 => ?_) (fun hc87 => ?_)
      · try dsimp only at hc87
        have hE : splE rs row cell fresh = placeE rs row cell := by (unfold splE; rw [if_pos hc87])
        have hV : splV rs row cell fresh = [] := splV_bad (by rw [hE]; exact hc87)
        rw [hV, hE]
        refine TC.regionCut [88, 89, 90, 91, 92, 93, 94, 95, 4] 4 (True) ?_ ?_
        · skip
          refine TL.run1 (pure_move rfl) rfl ?_
          first | refine TL.run1 (pure_len Ty.sl22 rfl) rfl ?_ | refine TL.run1 (pure_len_row Ty.sl22 rfl (by repeat (first | exact List.Mem.head _ | apply List.Mem.tail))) rfl ?_ | refine TL.run1 (pure_len_nil Ty.sl22 rfl) rfl ?_
          refine TL.run1 (pure_eql rfl rfl) rfl ?_
          refine TL.run1 (pure_move rfl) rfl ?_
          first | refine TL.splitP 91 rfl (fun hg91 => ?_) (fun hg91 => ?_) | refine TL.split 91 rfl (fun hg91 => ?_) (fun hg91 => ?_)
          · try dsimp only at hg91
            refine TL.runG rfl rfl (pure_move rfl) rfl ?_
            refine TL.runG rfl rfl (pure_move rfl) rfl ?_
            refine TL.runG rfl rfl (pure_eql rfl rfl) rfl ?_
            refine TL.run1 (pure_pick_true rfl rfl) rfl ?_
            refine TL.run1 (pure_assign rfl) rfl ?_
            refine TL.cutEnd (by repeat (first | exact Same.refl _ _ | refine Same.put rfl ?_)) rfl ?_
            simp_all [encRs]
          · try dsimp only at hg91
            refine TL.passG rfl rfl rfl rfl ?_
            refine TL.passG rfl rfl rfl rfl ?_
            refine TL.passG rfl rfl rfl rfl ?_
            refine TL.run1 (pure_pick_false rfl rfl) rfl ?_
            refine TL.run1 (pure_assign rfl) rfl ?_
            refine TL.cutEnd (by repeat (first | exact Same.refl _ _ | refine Same.put rfl ?_)) rfl ?_
            simp_all [encRs]
        refine TC.ret ?_
        refine then_ret ?_
        exact ret_bool rfl (by simp)
      · try dsimp only at hc87
        have hE0 : placeE rs row cell = 0 := Classical.not_not.1 hc87
        obtain ⟨hex, hne⟩ := placeE_zero hE0
        have hv : Val rs row cell := place_val.2 ⟨hex, hne⟩
        have heq : (placeR rs row cell) = (rectN rs row cell) := by (unfold placeR; rw [if_pos ⟨hex, hne⟩])
        have hok : ¬ (fresh < 1 ∨ fresh > 1073741824 ∨ nnQ (placeR rs row cell) > 1073741824 - fresh + 1) := fun h => hc85 ⟨hE0, h⟩
        have hf : 1 ≤ fresh ∧ fresh ≤ 1073741824 := by omega
        have hE : splE rs row cell fresh = 0 := by (unfold splE; rw [if_neg (fun e => e hE0), if_neg hok])
        have hV : splV rs row cell fresh = (splT rs (rectN rs row cell) fresh) := by (unfold splV; rw [if_pos hE, heq])
        rw [heq] at b1 b2 b3 b4 b5 b6 b7 b8 b9 b10 b11 b12 b13 b14
        rw [hV, hE, heq]
        have hTm := splT_T hv fresh hT (fun r h => (hsm.cells r h).1)
        have hOm := splT_ok hv fresh hr (fun r h => (hsm.cells r h).1)
        have hml : (splT rs (rectN rs row cell) fresh).length ≤ 2000 := by (rw [splT_len]; exact hl)
        obtain ⟨q1, q2, q3, q4, q5, q6, q7, q8, q9⟩ := rect_range hv
        refine TC.skip' ?_
        refine TC.seq ?_
        refine TC.region ?_
        refine TL.run1 (pure_move rfl) rfl ?_
        first | refine TL.run1 (pure_fieldAddr Ty.f62_0 rfl (.zero _) (List.cons_ne_nil _ _)) rfl ?_ | refine TL.run1 (pure_fieldAddr_own Ty.f62_0 rfl) rfl ?_
        first | refine TL.run1 (pure_load1 Ty.one3 rfl) rfl ?_ | refine TL.run1 (pure_load1_own Ty.one3 rfl (by repeat (first | exact List.Mem.head _ | apply List.Mem.tail)) (by repeat (first | exact DropR.zero _ | apply DropR.succ))) rfl ?_
        first | refine TL.run1 (pure_fieldAddr Ty.f62_1 rfl (.succ (.zero _)) (List.cons_ne_nil _ _)) rfl ?_ | refine TL.run1 (pure_fieldAddr_own Ty.f62_1 rfl) rfl ?_
        first | refine TL.run1 (pure_load1 Ty.one3 rfl) rfl ?_ | refine TL.run1 (pure_load1_own Ty.one3 rfl (by repeat (first | exact List.Mem.head _ | apply List.Mem.tail)) (by repeat (first | exact DropR.zero _ | apply DropR.succ))) rfl ?_
        first | refine TL.run1 (pure_fieldAddr Ty.f62_2 rfl (.succ (.succ (.zero _))) (List.cons_ne_nil _ _)) rfl ?_ | refine TL.run1 (pure_fieldAddr_own Ty.f62_2 rfl) rfl ?_
        first | refine TL.run1 (pure_load1 Ty.one3 rfl) rfl ?_ | refine TL.run1 (pure_load1_own Ty.one3 rfl (by repeat (first | exact List.Mem.head _ | apply List.Mem.tail)) (by repeat (first | exact DropR.zero _ | apply DropR.succ))) rfl ?_
        refine TL.run1 (pure_call (RSplit_spec rs hr hl (fun r h => (hsm.cells r h).2) row cell fresh hv hf) (.cons rfl (.cons rfl (.cons rfl (.cons rfl .nil)))) Try.call30) rfl ?_
        refine TL.run1 (pure_move rfl) rfl ?_
        refine TL.run1 (pure_extract rfl rfl) rfl ?_
        refine TL.run1 (pure_extract rfl rfl) rfl ?_
        refine TL.run1 (pure_assign rfl) rfl ?_
        refine TL.run1 (pure_assign rfl) rfl ?_
        refine TL.nil' ?_
        refine TC.seq ?_
        refine TC.regionCut [107, 108, 109, 110, 111, 112, 113, 114, 115, 116, 117, 118, 119, 120, 121, 122] 122 (False) ?_ ?_
        · skip
          refine TL.run1 (pure_move rfl) rfl ?_
          refine TL.run1 (pure_neq rfl rfl) rfl ?_
          refine TL.run1 (pure_move rfl) rfl ?_
          first | refine TL.splitP 109 rfl (fun hg109 => ?_) (fun hg109 => ?_) | refine TL.split 109 rfl (fun hg109 => ?_) (fun hg109 => ?_)
          · try dsimp only at hg109
            refine TL.passG rfl rfl rfl rfl ?_
            refine TL.passG rfl rfl rfl rfl ?_
            refine TL.passG rfl rfl rfl rfl ?_
            refine TL.passG rfl rfl rfl rfl ?_
            refine TL.run1 (pure_pick_true rfl rfl) rfl ?_
            refine TL.run1 (pure_move rfl) rfl ?_
            refine TL.passG rfl rfl rfl rfl ?_
            refine TL.passG rfl rfl rfl rfl ?_
            refine TL.passG rfl rfl rfl rfl ?_
            refine TL.passG rfl rfl rfl rfl ?_
            refine TL.passG rfl rfl rfl rfl ?_
            refine TL.passG rfl rfl rfl rfl ?_
            refine TL.run1 (pure_pick_true rfl rfl) rfl ?_
            refine TL.cutEnd (by repeat (first | exact Same.refl _ _ | refine Same.put rfl ?_)) rfl ?_
            first | (simp_all [nnQ]; done) | (unfold nnQ; grind)
          · try dsimp only at hg109
            refine TL.runG rfl rfl (pure_move rfl) rfl ?_
            refine TL.runG rfl rfl (pure_move rfl) rfl ?_
            refine TL.runG rfl rfl (pure_call (REqual_spec (splT rs (rectN rs row cell) fresh) hTm) (.cons rfl (.cons rfl .nil)) Try.call31) rfl ?_
            refine TL.runG rfl rfl (pure_not rfl) rfl ?_
            refine TL.run1 (pure_pick_false rfl rfl) rfl ?_
            refine TL.run1 (pure_move rfl) rfl ?_
            first | refine TL.splitP 115 rfl (fun hg115 => ?_) (fun hg115 => ?_) | refine TL.split 115 rfl (fun hg115 => ?_) (fun hg115 => ?_)
            · try dsimp only at hg115
              refine TL.passG rfl rfl rfl rfl ?_
              refine TL.passG rfl rfl rfl rfl ?_
              refine TL.passG rfl rfl rfl rfl ?_
              refine TL.passG rfl rfl rfl rfl ?_
              refine TL.passG rfl rfl rfl rfl ?_
              refine TL.passG rfl rfl rfl rfl ?_
              refine TL.run1 (pure_pick_true rfl rfl) rfl ?_
              refine TL.cutEnd (by repeat (first | exact Same.refl _ _ | refine Same.put rfl ?_)) rfl ?_
              first | (simp_all [nnQ]; done) | (unfold nnQ; grind)
            · try dsimp only at hg115
              refine TL.runG rfl rfl (pure_move rfl) rfl ?_
              first | refine TL.runG rfl rfl (pure_fieldAddr Ty.f62_2 rfl (.succ (.succ (.zero _))) (List.cons_ne_nil _ _)) rfl ?_ | refine TL.runG rfl rfl (pure_fieldAddr_own Ty.f62_2 rfl) rfl ?_
              first | refine TL.runG rfl rfl (pure_load1 Ty.one3 rfl) rfl ?_ | refine TL.runG rfl rfl (pure_load1_own Ty.one3 rfl (by repeat (first | exact List.Mem.head _ | apply List.Mem.tail)) (by repeat (first | exact DropR.zero _ | apply DropR.succ))) rfl ?_
              refine TL.runG rfl rfl (pure_move rfl) rfl ?_
              refine TL.runG rfl rfl (pure_add rfl rfl (mkI64 (by omega) (by omega))) rfl ?_
              refine TL.runG rfl rfl (pure_neq rfl rfl) rfl ?_
              refine TL.run1 (pure_pick_false rfl rfl) rfl ?_
              refine TL.cutEnd (by repeat (first | exact Same.refl _ _ | refine Same.put rfl ?_)) rfl ?_
              first | (simp_all [nnQ]; done) | (unfold nnQ; grind)
        first | refine TC.condD rfl (fun hc122 => ?_) (fun hc122 => ?_) | refine TC.condN rfl (fun hc122 => ?_) (fun hc122 => ?_) | refine TC.cond rfl (fun hc122 => ?_) (fun hc122 => ?_)
        · try dsimp only at hc122
          all_goals exact absurd hc122 id
        · try dsimp only at hc122
          refine TC.skip' ?_
          refine TC.seq ?_
          refine TC.seq ?_
          refine TC.region ?_
          first | refine TL.run1 (pure_fieldAddr Ty.f40_2 rfl (.succ (.succ (.zero _))) (List.cons_ne_nil _ _)) rfl ?_ | refine TL.run1 (pure_fieldAddr_own Ty.f40_2 rfl) rfl ?_
          first | refine TL.run1 (pure_fieldAddr Ty.f38_0 rfl (.zero _) (List.cons_ne_nil _ _)) rfl ?_ | refine TL.run1 (pure_fieldAddr_own Ty.f38_0 rfl) rfl ?_
          first | refine TL.run1 (pure_load1 Ty.one3 rfl) rfl ?_ | refine TL.run1 (pure_load1_own Ty.one3 rfl (by repeat (first | exact List.Mem.head _ | apply List.Mem.tail)) (by repeat (first | exact DropR.zero _ | apply DropR.succ))) rfl ?_
          refine TL.run1 (pure_assign rfl) rfl ?_
          refine TL.nil' ?_
          refine TC.block ?_
          refine TC.loopX (X := Int) (fun i => [(5, .sl 6 (encRs (splT rs (rectN rs row cell) fresh))), (7, .at_ (encQ (rectN rs row cell))), (12, .v (.int .i64 i))]) (fun i => []) (fun i => ((rectN rs row cell).top ≤ i) ∧ (i ≤ (rectN rs row cell).bottom)) (fun i => ((rectN rs row cell).bottom - i).toNat) ((rectN rs row cell).top) ⟨by skip; repeat (first | exact Agree.nil | refine Agree.cons rfl ?_), by skip; repeat (first | exact List.nil_sublist _ | exact List.Sublist.refl _ | apply List.Sublist.cons_cons | apply List.Sublist.cons)⟩ ?_ ?_
          · skip
            exact ⟨Int.le_refl _, by omega⟩
          intro i
          rintro ⟨h0, h1⟩
          show TC _ _ _ (Env.of [(5, .sl 6 (encRs (splT rs (rectN rs row cell) fresh))), (7, .at_ (encQ (rectN rs row cell))), (12, .v (.int .i64 i))]) []
          refine TC.seq ?_
          refine TC.seq ?_
          refine TC.region ?_
          refine TL.run1 (pure_move rfl) rfl ?_
          first | refine TL.run1 (pure_fieldAddr Ty.f40_2 rfl (.succ (.succ (.zero _))) (List.cons_ne_nil _ _)) rfl ?_ | refine TL.run1 (pure_fieldAddr_own Ty.f40_2 rfl) rfl ?_
          first | refine TL.run1 (pure_fieldAddr Ty.f38_2 rfl (.succ (.succ (.zero _))) (List.cons_ne_nil _ _)) rfl ?_ | refine TL.run1 (pure_fieldAddr_own Ty.f38_2 rfl) rfl ?_
          first | refine TL.run1 (pure_load1 Ty.one3 rfl) rfl ?_ | refine TL.run1 (pure_load1_own Ty.one3 rfl (by repeat (first | exact List.Mem.head _ | apply List.Mem.tail)) (by repeat (first | exact DropR.zero _ | apply DropR.succ))) rfl ?_
          refine TL.run1 (pure_lss rfl rfl) rfl ?_
          refine TL.nil' ?_
          first | refine TC.condD rfl (fun hc130 => ?_) (fun hc130 => ?_) | refine TC.condN rfl (fun hc130 => ?_) (fun hc130 => ?_) | refine TC.cond rfl (fun hc130 => ?_) (fun hc130 => ?_)
          · try dsimp only at hc130
            refine TC.skip' ?_
            refine TC.seq ?_
            refine TC.block ?_
            refine TC.seq ?_
            refine TC.region ?_
            first | refine TL.run1 (pure_fieldAddr Ty.f40_2 rfl (.succ (.succ (.zero _))) (List.cons_ne_nil _ _)) rfl ?_ | refine TL.run1 (pure_fieldAddr_own Ty.f40_2 rfl) rfl ?_
            first | refine TL.run1 (pure_fieldAddr Ty.f38_1 rfl (.succ (.zero _)) (List.cons_ne_nil _ _)) rfl ?_ | refine TL.run1 (pure_fieldAddr_own Ty.f38_1 rfl) rfl ?_
            first | refine TL.run1 (pure_load1 Ty.one3 rfl) rfl ?_ | refine TL.run1 (pure_load1_own Ty.one3 rfl (by repeat (first | exact List.Mem.head _ | apply List.Mem.tail)) (by repeat (first | exact DropR.zero _ | apply DropR.succ))) rfl ?_
            refine TL.run1 (pure_assign rfl) rfl ?_
            refine TL.nil' ?_
            refine TC.block ?_
            refine TC.loopX (X := Int) (fun c => [(5, .sl 6 (encRs (splT rs (rectN rs row cell) fresh))), (7, .at_ (encQ (rectN rs row cell))), (12, .v (.int .i64 i)), (13, .v (.int .i64 c))]) (fun c => []) (fun c => ((rectN rs row cell).left ≤ c) ∧ (c ≤ (rectN rs row cell).right)) (fun c => ((rectN rs row cell).right - c).toNat) ((rectN rs row cell).left) ⟨by skip; repeat (first | exact Agree.nil | refine Agree.cons rfl ?_), by skip; repeat (first | exact List.nil_sublist _ | exact List.Sublist.refl _ | apply List.Sublist.cons_cons | apply List.Sublist.cons)⟩ ?_ ?_
            · skip
              exact ⟨Int.le_refl _, by omega⟩
            intro c
            rintro ⟨c0, c1⟩
            show TC _ _ _ (Env.of [(5, .sl 6 (encRs (splT rs (rectN rs row cell) fresh))), (7, .at_ (encQ (rectN rs row cell))), (12, .v (.int .i64 i)), (13, .v (.int .i64 c))]) []
            refine TC.seq ?_
            refine TC.seq ?_
            refine TC.region ?_
            refine TL.run1 (pure_move rfl) rfl ?_
            first | refine TL.run1 (pure_fieldAddr Ty.f40_2 rfl (.succ (.succ (.zero _))) (List.cons_ne_nil _ _)) rfl ?_ | refine TL.run1 (pure_fieldAddr_own Ty.f40_2 rfl) rfl ?_
            first | refine TL.run1 (pure_fieldAddr Ty.f38_3 rfl (.succ (.succ (.succ (.zero _)))) (List.cons_ne_nil _ _)) rfl ?_ | refine TL.run1 (pure_fieldAddr_own Ty.f38_3 rfl) rfl ?_
            first | refine TL.run1 (pure_load1 Ty.one3 rfl) rfl ?_ | refine TL.run1 (pure_load1_own Ty.one3 rfl (by repeat (first | exact List.Mem.head _ | apply List.Mem.tail)) (by repeat (first | exact DropR.zero _ | apply DropR.succ))) rfl ?_
            refine TL.run1 (pure_lss rfl rfl) rfl ?_
            refine TL.nil' ?_
            first | refine TC.condD rfl (fun hc140 => ?_) (fun hc140 => ?_) | refine TC.condN rfl (fun hc140 => ?_) (fun hc140 => ?_) | refine TC.cond rfl (fun hc140 => ?_) (fun hc140 => ?_)
            · try dsimp only at hc140
              refine TC.skip' ?_
              refine TC.seq ?_
              refine TC.block ?_
              refine TC.seq ?_
              obtain ⟨e1, e2, e3, e4, e5, e6⟩ := split_at hv fresh i c h0 (by omega) c0 (by omega)
              refine TC.region ?_
              refine TL.run1 (pure_move rfl) rfl ?_
              refine TL.run1 (pure_move rfl) rfl ?_
              refine TL.run1 (pure_move rfl) rfl ?_
              refine TL.run1 (pure_call (At_spec (splT rs (rectN rs row cell) fresh) hOm i c) (.cons rfl (.cons rfl (.cons rfl .nil))) Try.call27) rfl ?_
              refine TL.run1 (pure_move rfl) rfl ?_
              refine TL.run1 (pure_extract rfl rfl) rfl ?_
              refine TL.run1 (pure_extract rfl rfl) rfl ?_
              refine TL.run1 (pure_assign rfl) rfl ?_
              refine TL.run1 (pure_assign rfl) rfl ?_
              refine TL.nil' ?_
              refine TC.seq ?_
              refine TC.region ?_
              refine TL.run1 (pure_move rfl) rfl ?_
              refine TL.run1 (pure_move rfl) rfl ?_
              refine TL.run1 (pure_move rfl) rfl ?_
              refine TL.run1 (pure_call (GPlace_spec (splT rs (rectN rs row cell) fresh) hOm hml i _) (.cons rfl (.cons rfl (.cons rfl .nil))) Try.call26) rfl ?_
              refine TL.run1 (pure_move rfl) rfl ?_
              refine TL.run1 (pure_extract rfl rfl) rfl ?_
              refine TL.run1 (pure_extract rfl rfl) rfl ?_
              refine TL.alloc Ty.zero40 rfl (fun g16 => ?_)
              refine TL.store rfl rfl (.agg _) Try.sizeOf40 rfl (by repeat (first | exact UpdR.here _ | apply UpdR.there)) (by repeat (first | exact PutR.nil _ | apply PutR.here | apply PutR.skip)) ?_
              refine TL.run1 (pure_assign rfl) rfl ?_
              refine TL.nil' ?_
              refine TC.regionCut [157, 158, 159, 160, 161, 162, 163, 164, 165, 166, 167, 168, 169, 170, 171, 172, 173, 174] 174 (False) ?_ ?_
              · skip
                refine TL.run1 (pure_move rfl) rfl ?_
                refine TL.run1 (pure_neq rfl rfl) rfl ?_
                refine TL.run1 (pure_move rfl) rfl ?_
                first | refine TL.splitP 159 rfl (fun hg159 => ?_) (fun hg159 => ?_) | refine TL.split 159 rfl (fun hg159 => ?_) (fun hg159 => ?_)
                · try dsimp only at hg159
                  refine TL.passG rfl rfl rfl rfl ?_
                  refine TL.passG rfl rfl rfl rfl ?_
                  refine TL.run1 (pure_pick_true rfl rfl) rfl ?_
                  refine TL.run1 (pure_move rfl) rfl ?_
                  refine TL.passG rfl rfl rfl rfl ?_
                  refine TL.passG rfl rfl rfl rfl ?_
                  refine TL.passG rfl rfl rfl rfl ?_
                  refine TL.passG rfl rfl rfl rfl ?_
                  refine TL.passG rfl rfl rfl rfl ?_
                  refine TL.passG rfl rfl rfl rfl ?_
                  refine TL.passG rfl rfl rfl rfl ?_
                  refine TL.passG rfl rfl rfl rfl ?_
                  refine TL.passG rfl rfl rfl rfl ?_
                  refine TL.passG rfl rfl rfl rfl ?_
                  refine TL.run1 (pure_pick_true rfl rfl) rfl ?_
                  refine TL.cutEnd (by repeat (first | exact Same.refl _ _ | refine Same.put rfl ?_)) rfl ?_
                  first | (simp_all; done) | (simp_all; omega) | grind
                · try dsimp only at hg159
                  refine TL.runG rfl rfl (pure_move rfl) rfl ?_
                  refine TL.runG rfl rfl (pure_neq rfl rfl) rfl ?_
                  refine TL.run1 (pure_pick_false rfl rfl) rfl ?_
                  refine TL.run1 (pure_move rfl) rfl ?_
                  first | refine TL.splitP 163 rfl (fun hg163 => ?_) (fun hg163 => ?_) | refine TL.split 163 rfl (fun hg163 => ?_) (fun hg163 => ?_)
                  · try dsimp only at hg163
                    refine TL.passG rfl rfl rfl rfl ?_
                    refine TL.passG rfl rfl rfl rfl ?_
                    refine TL.passG rfl rfl rfl rfl ?_
                    refine TL.passG rfl rfl rfl rfl ?_
                    refine TL.passG rfl rfl rfl rfl ?_
                    refine TL.passG rfl rfl rfl rfl ?_
                    refine TL.passG rfl rfl rfl rfl ?_
                    refine TL.passG rfl rfl rfl rfl ?_
                    refine TL.passG rfl rfl rfl rfl ?_
                    refine TL.passG rfl rfl rfl rfl ?_
                    refine TL.run1 (pure_pick_true rfl rfl) rfl ?_
                    refine TL.cutEnd (by repeat (first | exact Same.refl _ _ | refine Same.put rfl ?_)) rfl ?_
                    first | (simp_all; done) | (simp_all; omega) | grind
                  · try dsimp only at hg163
                    first | refine TL.runG rfl rfl (pure_fieldAddr Ty.f40_2 rfl (.succ (.succ (.zero _))) (List.cons_ne_nil _ _)) rfl ?_ | refine TL.runG rfl rfl (pure_fieldAddr_own Ty.f40_2 rfl) rfl ?_
                    first | refine TL.runG rfl rfl (pure_load Ty.agg38 rfl (.succ (.succ (.succ (.succ (.zero _)))))) rfl ?_ | refine TL.runG rfl rfl (pure_load_own Ty.agg38 rfl (by repeat (first | exact List.Mem.head _ | apply List.Mem.tail)) (by repeat (first | exact DropR.zero _ | apply DropR.succ)) (.succ (.succ (.succ (.succ (.zero _)))))) rfl ?_
                    refine TL.runG rfl rfl (pure_move rfl) rfl ?_
                    refine TL.runG rfl rfl (pure_move rfl) rfl ?_
                    refine TL.runG rfl rfl (pure_move rfl) rfl ?_
                    refine TL.runG rfl rfl (pure_add rfl rfl (mkI64 (by omega) (by omega))) rfl ?_
                    refine TL.runG rfl rfl (pure_move rfl) rfl ?_
                    refine TL.runG rfl rfl (pure_add rfl rfl (mkI64 (by omega) (by omega))) rfl ?_
                    refine TL.runG rfl rfl (pure_build Ty.pl38 Ty.zero38 (.cons rfl rfl (.one rfl) rfl (.here (.nil _)) (.cons rfl rfl (.one rfl) rfl (.skip (.here (.nil _))) (.cons rfl rfl (.one rfl) rfl (.skip (.skip (.here (.nil _)))) (.cons rfl rfl (.one rfl) rfl (.skip (.skip (.skip (.here (.nil _))))) (.nil _)))))) rfl ?_
                    refine TL.runG rfl rfl (pure_neq_agg Ty.eq38 rfl rfl (.cons (.cons (.cons (.cons .nil)))) (.cons (.cons (.cons (.cons .nil)))) rfl rfl) rfl ?_
                    refine TL.run1 (pure_pick_false rfl rfl) rfl ?_
                    refine TL.cutEnd (by repeat (first | exact Same.refl _ _ | refine Same.put rfl ?_)) rfl ?_
                    first | (simp_all; done) | (simp_all; omega) | grind
              first | refine TC.condD rfl (fun hc174 => ?_) (fun hc174 => ?_) | refine TC.condN rfl (fun hc174 => ?_) (fun hc174 => ?_) | refine TC.cond rfl (fun hc174 => ?_) (fun hc174 => ?_)
              · try dsimp only at hc174
                all_goals exact absurd hc174 id
              · try dsimp only at hc174
                refine TC.skip ?_
                refine block_normal ?_
                refine then_normal ?_
                refine TC.region ?_
                refine TL.run1 (pure_move rfl) rfl ?_
                refine TL.run1 (pure_add rfl rfl (mkI64 (by omega) (by omega))) rfl ?_
                refine TL.run1 (pure_assign rfl) rfl ?_
                refine TL.nil ?_
                refine loop_next (c + 1) ⟨by repeat (first | exact Agree.nil | refine Agree.cons rfl ?_), by repeat (first | exact List.nil_sublist _ | exact List.Sublist.refl _ | apply List.Sublist.cons_cons | apply List.Sublist.cons)⟩ ⟨by omega, by omega⟩ (by omega)
            · try dsimp only at hc140
              refine TC.exit ?_
              refine then_exit ?_
              refine loop_exit ?_
              refine block_here ?_
              refine block_normal ?_
              refine then_normal ?_
              refine TC.region ?_
              refine TL.run1 (pure_move rfl) rfl ?_
              refine TL.run1 (pure_add rfl rfl (mkI64 (by omega) (by omega))) rfl ?_
              refine TL.run1 (pure_assign rfl) rfl ?_
              refine TL.nil ?_
              refine loop_next (i + 1) ⟨by repeat (first | exact Agree.nil | refine Agree.cons rfl ?_), by repeat (first | exact List.nil_sublist _ | exact List.Sublist.refl _ | apply List.Sublist.cons_cons | apply List.Sublist.cons)⟩ ⟨by omega, by omega⟩ (by omega)
          · try dsimp only at hc130
            refine TC.exit ?_
            refine then_exit ?_
            refine loop_exit ?_
            refine block_here ?_
            refine then_normal ?_
            refine TC.seq ?_
            refine TC.region ?_
            refine TL.run1 (pure_assign rfl) rfl ?_
            refine TL.nil' ?_
            refine TC.ret ?_
            exact ret_bool rfl (by simp)
end Go.Ob
