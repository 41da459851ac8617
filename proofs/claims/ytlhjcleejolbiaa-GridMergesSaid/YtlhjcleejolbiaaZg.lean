import Derived.Test.YtlhjcleejolbiaaZf
set_option linter.unusedVariables false
set_option linter.unusedSimpArgs false
set_option linter.unnecessarySimpa false
set_option linter.unusedVariables false
set_option linter.unusedSimpArgs false
namespace Go.Ob
open Go.Proofs
theorem sameN_lt {r : RowD} {f t : Int} (h : 0 ≤ sameN r f t) : sameN r f t < r.cells.length := by
  rcases firstIdx_spec (fun k => decide ((sAt (spansR r) k).1 = f ∧ (sAt (spansR r) k).2 = t ∧ (sAt (spansR r) k).1 < (sAt (spansR r) k).2)) r.cells.length with ⟨a, _⟩ | ⟨_, b, _, _⟩
  · have : sameN r f t = -1 := a
    omega
  · exact b
theorem csB_val {rs : List RowD} {i k : Int} (h : Val rs i k) : csB rs (spN rs i k) i = contB rs i k := by
  unfold csB
  rw [sameN_val h]
  simp [h.2.2.1]
theorem topN_step {rs : List RowD} {s : Int × Int} {i : Int} (h : 1 ≤ i) (hc : csB rs s i = true) : topN rs s i.toNat = topN rs s (i - 1).toNat := by
  obtain ⟨n, hn⟩ : ∃ n : Nat, i = n + 1 := ⟨(i - 1).toNat, by omega⟩
  subst hn
  rw [show ((n : Int) + 1).toNat = n + 1 by omega, show ((n : Int) + 1 - 1).toNat = n by omega, topN, if_pos (by simpa using hc)]
theorem topN_stop {rs : List RowD} {s : Int × Int} {i : Int} (h : 0 ≤ i) (hc : csB rs s i = false) : topN rs s i.toNat = i.toNat := by
  rcases Int.lt_or_eq_of_le h with hl | hl
  · obtain ⟨n, hn⟩ : ∃ n : Nat, i = n + 1 := ⟨(i - 1).toNat, by omega⟩
    subst hn
    have hc' : csB rs s ((n + 1 : Nat) : Int) = false := by simpa using hc
    rw [show ((n : Int) + 1).toNat = n + 1 by omega, topN, hc', if_neg (by simp)]
  · subst hl; rfl
theorem contB_zero (rs : List RowD) (k : Int) : contB rs 0 k = false := by simp [contB]
theorem botN_step {rs : List RowD} {s : Int × Int} {b : Int} (h0 : 0 ≤ b) (h : b < rs.length) (hc : csB rs s b = true) : botN rs s b.toNat (rs.length - b.toNat) = botN rs s (b + 1).toNat (rs.length - (b + 1).toNat) := by
  rw [show rs.length - b.toNat = (rs.length - (b + 1).toNat) + 1 by omega, botN, show ((b.toNat : Nat) : Int) = b by omega, if_pos hc, show (b + 1).toNat = b.toNat + 1 by omega]
theorem botN_stop {rs : List RowD} {s : Int × Int} {b : Int} (h0 : 0 ≤ b) (hc : csB rs s b = false ∨ (rs.length : Int) ≤ b) : botN rs s b.toNat (rs.length - b.toNat) = b.toNat := by
  rcases hc with hc | hc
  · generalize rs.length - b.toNat = d
    cases d with
    | zero => rfl
    | succ d => rw [botN, show ((b.toNat : Nat) : Int) = b by omega, hc, if_neg (by simp)]
  · rw [show rs.length - b.toNat = 0 by omega]; rfl
theorem place_val {rs : List RowD} {i k : Int} : Val rs i k ↔ existsN rs i k ∧ (spN rs i k).1 ≠ (spN rs i k).2 := by
  unfold Val existsN ncN
  constructor
  · rintro ⟨a, b, c, d, e⟩; exact ⟨⟨a, b, c, d⟩, e⟩
  · rintro ⟨⟨a, b, c, d⟩, e⟩; exact ⟨a, b, c, d, e⟩
theorem look_of {rs : List RowD} {i k : Int} (h : Val rs i k) : ∃ n, look (layOf rs) (i, k) = some n ∧ 0 ≤ n ∧ n < (layRects rs).length ∧ qAt (layRects rs) n = rectN rs i k := by
  have hf := lay_final rs
  obtain ⟨n, a, b, c, d⟩ := hf.A i k h (seen_all h)
  exact ⟨n, a, b, c, rect_eq (hf.C n b c) h d⟩
end Go.Ob
set_option linter.unusedVariables false
set_option linter.unusedSimpArgs false
namespace Go.Ob
open Go.Proofs
set_option maxRecDepth 100000 in
theorem Same_spec (r : RowD) (hr : RowOk r) (f t : Int) : Fun Try.prog 48 [.agg (encR r), .v (.int .i64 f), .v (.int .i64 t)] (.v (.int .i64 (sameN r f t))) := by
  refine Fun.enter (n := 37) (rs := [.tmp 6]) Try.func48 rfl Try.ntmps48 Try.results48 rfl (fun w F => ?_)
  refine TC.seq ?_
  refine TC.region ?_
  refine TL.box rfl (.agg _) rfl (fun g3 => ?_)
  refine TL.run1 (pure_assign rfl) rfl ?_
  refine TL.nil' ?_
  refine TC.seq ?_
  refine TC.seq ?_
  refine TC.region ?_
  refine TL.run1 (pure_assign rfl) rfl ?_
  refine TL.nil' ?_
  refine TC.block ?_
  refine TC.loopX (X := Int) (fun i => [(1, .v (.int .i64 f)), (2, .v (.int .i64 t)), (3, .v (.pointer (some ⟨g3, 0, none⟩))), (7, .v (.int .i64 i))]) (fun i => [.box g3 36 (encR r)]) (fun i => (0 ≤ i) ∧ (i ≤ r.cells.length) ∧ (∀ j : Int, 0 ≤ j → j < i → ¬ ((sAt (spansR r) j).1 = f ∧ (sAt (spansR r) j).2 = t ∧ (sAt (spansR r) j).1 < (sAt (spansR r) j).2))) (fun i => (r.cells.length - i).toNat) (0) ⟨by skip; repeat (first | exact Agree.nil | refine Agree.cons rfl ?_), by skip; repeat (first | exact List.nil_sublist _ | exact List.Sublist.refl _ | apply List.Sublist.cons_cons | apply List.Sublist.cons)⟩ ?_ ?_
  · skip
    exact ⟨by omega, by omega, fun j _ _ => by omega⟩
  intro i
  rintro ⟨h0, h1, h2⟩
  show TC _ _ _ (Env.of [(1, .v (.int .i64 f)), (2, .v (.int .i64 t)), (3, .v (.pointer (some ⟨g3, 0, none⟩))), (7, .v (.int .i64 i))]) [.box g3 36 (encR r)]
  have hck := encCs_len r.cells
  have hrl := hr.2.1
  refine TC.seq ?_
  refine TC.seq ?_
  refine TC.region ?_
  refine TL.run1 (pure_move rfl) rfl ?_
  first | refine TL.run1 (pure_fieldAddr Ty.f36_1 rfl (.succ (.succ (.succ (.succ (.succ (.zero _)))))) (List.cons_ne_nil _ _)) rfl ?_ | refine TL.run1 (pure_fieldAddr_own Ty.f36_1 rfl) rfl ?_
  first | refine TL.run1 (pure_load1 Ty.one34 rfl) rfl ?_ | refine TL.run1 (pure_load1_own Ty.one34 rfl (by repeat (first | exact List.Mem.head _ | apply List.Mem.tail)) (by repeat (first | exact DropR.zero _ | apply DropR.succ))) rfl ?_
  first | refine TL.run1 (pure_len Ty.sl34 rfl) rfl ?_ | refine TL.run1 (pure_len_row Ty.sl34 rfl (by repeat (first | exact List.Mem.head _ | apply List.Mem.tail))) rfl ?_ | refine TL.run1 (pure_len_nil Ty.sl34 rfl) rfl ?_
  refine TL.run1 (pure_lss rfl rfl) rfl ?_
  refine TL.nil' ?_
  first | refine TC.condD rfl (fun hc14 => ?_) (fun hc14 => ?_) | refine TC.condN rfl (fun hc14 => ?_) (fun hc14 => ?_) | refine TC.cond rfl (fun hc14 => ?_) (fun hc14 => ?_)
  · try dsimp only at hc14
    refine TC.skip' ?_
    refine TC.seq ?_
    refine TC.block ?_
    refine TC.seq ?_
    refine TC.region ?_
    first | refine TL.run1 (pure_load Ty.agg36 rfl (.succ (.succ (.succ (.succ (.succ (.succ (.zero _)))))))) rfl ?_ | refine TL.run1 (pure_load_own Ty.agg36 rfl (by repeat (first | exact List.Mem.head _ | apply List.Mem.tail)) (by repeat (first | exact DropR.zero _ | apply DropR.succ)) (.succ (.succ (.succ (.succ (.succ (.succ (.zero _)))))))) rfl ?_
    refine TL.run1 (pure_move rfl) rfl ?_
    refine TL.run1 (pure_call (span_spec _ hr _ h0 (by omega)) (.cons rfl (.cons rfl .nil)) Try.call19) rfl ?_
    refine TL.run1 (pure_move rfl) rfl ?_
    refine TL.run1 (pure_extract rfl rfl) rfl ?_
    refine TL.run1 (pure_extract rfl rfl) rfl ?_
    refine TL.run1 (pure_assign rfl) rfl ?_
    refine TL.run1 (pure_assign rfl) rfl ?_
    refine TL.nil' ?_
    refine TC.regionCut [23, 24, 25, 26, 27, 28, 29, 30, 31, 32, 33, 34, 35] 35 ((sAt (spansR r) i).1 = f ∧ (sAt (spansR r) i).2 = t ∧ (sAt (spansR r) i).1 < (sAt (spansR r) i).2) ?_ ?_
    · skip
      refine TL.run1 (pure_move rfl) rfl ?_
      refine TL.run1 (pure_move rfl) rfl ?_
      refine TL.run1 (pure_eql rfl rfl) rfl ?_
      refine TL.run1 (pure_move rfl) rfl ?_
      first | refine TL.splitP 26 rfl (fun hg26 => ?_) (fun hg26 => ?_) | refine TL.split 26 rfl (fun hg26 => ?_) (fun hg26 => ?_)
      · try dsimp only at hg26
        refine TL.runG rfl rfl (pure_move rfl) rfl ?_
        refine TL.runG rfl rfl (pure_move rfl) rfl ?_
        refine TL.runG rfl rfl (pure_eql rfl rfl) rfl ?_
        refine TL.run1 (pure_pick_true rfl rfl) rfl ?_
        refine TL.run1 (pure_move rfl) rfl ?_
        first | refine TL.splitP 31 rfl (fun hg31 => ?_) (fun hg31 => ?_) | refine TL.split 31 rfl (fun hg31 => ?_) (fun hg31 => ?_)
        · try dsimp only at hg31
          refine TL.runG rfl rfl (pure_move rfl) rfl ?_
          refine TL.runG rfl rfl (pure_move rfl) rfl ?_
          refine TL.runG rfl rfl (pure_lss rfl rfl) rfl ?_
          refine TL.run1 (pure_pick_true rfl rfl) rfl ?_
          refine TL.cutEnd (by repeat (first | exact Same.refl _ _ | refine Same.put rfl ?_)) rfl ?_
          first | (simp only [decide_eq_true_eq, Bool.false_eq_true, false_iff, true_iff, iff_true, iff_false, Bool.not_eq_true]; omega) | (simp_all; done) | (simp_all; omega) | grind
        · try dsimp only at hg31
          refine TL.passG rfl rfl rfl rfl ?_
          refine TL.passG rfl rfl rfl rfl ?_
          refine TL.passG rfl rfl rfl rfl ?_
          refine TL.run1 (pure_pick_false rfl rfl) rfl ?_
          refine TL.cutEnd (by repeat (first | exact Same.refl _ _ | refine Same.put rfl ?_)) rfl ?_
          first | (simp only [decide_eq_true_eq, Bool.false_eq_true, false_iff, true_iff, iff_true, iff_false, Bool.not_eq_true]; omega) | (simp_all; done) | (simp_all; omega) | grind
      · try dsimp only at hg26
        refine TL.passG rfl rfl rfl rfl ?_
        refine TL.passG rfl rfl rfl rfl ?_
        refine TL.passG rfl rfl rfl rfl ?_
        refine TL.run1 (pure_pick_false rfl rfl) rfl ?_
        refine TL.run1 (pure_move rfl) rfl ?_
        refine TL.passG rfl rfl rfl rfl ?_
        refine TL.passG rfl rfl rfl rfl ?_
        refine TL.passG rfl rfl rfl rfl ?_
        refine TL.run1 (pure_pick_false rfl rfl) rfl ?_
        refine TL.cutEnd (by repeat (first | exact Same.refl _ _ | refine Same.put rfl ?_)) rfl ?_
        first | (simp only [decide_eq_true_eq, Bool.false_eq_true, false_iff, true_iff, iff_true, iff_false, Bool.not_eq_true]; omega) | (simp_all; done) | (simp_all; omega) | grind
    first | refine TC.condD rfl (fun hc35 => ?_) (fun hc35 => ?_) | refine TC.condN rfl (fun hc35 => ?_) (fun hc35 => ?_) | refine TC.cond rfl (fun hc35 => ?_) (fun hc35 => ?_)
    · try dsimp only at hc35
      refine TC.seq ?_
      refine TC.region ?_
      refine TL.run1 (pure_move rfl) rfl ?_
      refine TL.run1 (pure_assign rfl) rfl ?_
      refine TL.nil' ?_
      refine TC.ret ?_
      refine block_ret ?_
      refine then_ret ?_
      refine loop_ret ?_
      refine block_ret ?_
      refine then_ret ?_
      exact ret_int rfl (firstIdx_at h0 (decide_eq_true hc35) (fun j a b => decide_eq_false (h2 j a b)) (by omega)).symm
    · try dsimp only at hc35
      refine TC.skip ?_
      refine block_normal ?_
      refine then_normal ?_
      refine TC.region ?_
      refine TL.run1 (pure_move rfl) rfl ?_
      refine TL.run1 (pure_add rfl rfl (mkI64 (by omega) (by omega))) rfl ?_
      refine TL.run1 (pure_assign rfl) rfl ?_
      refine TL.nil ?_
      refine loop_next (i + 1) ⟨by repeat (first | exact Agree.nil | refine Agree.cons rfl ?_), by repeat (first | exact List.nil_sublist _ | exact List.Sublist.refl _ | apply List.Sublist.cons_cons | apply List.Sublist.cons)⟩ ⟨by omega, by omega, fun j a b => ?_⟩ (by omega)
      rcases Int.lt_or_eq_of_le (show j ≤ i by omega) with h | h
      · exact h2 j a h
      · rw [h]; exact hc35
  · try dsimp only at hc14
    refine TC.exit ?_
    refine then_exit ?_
    refine loop_exit ?_
    refine block_here ?_
    refine then_normal ?_
    refine TC.seq ?_
    refine TC.region ?_
    refine TL.run1 (pure_assign rfl) rfl ?_
    refine TL.nil' ?_
    refine TC.ret ?_
    exact ret_int rfl (firstIdx_none fun j a b => decide_eq_false (h2 j a (by omega))).symm
set_option maxRecDepth 100000 in
theorem RAt_spec (r : RowD) (hr : RowOk r) (c : Int) : Fun Try.prog 28 [.agg (encR r), .v (.int .i64 c)] (.v (.int .i64 (atN r c))) := by
  refine Fun.enter (n := 30) (rs := [.tmp 4]) Try.func28 rfl Try.ntmps28 Try.results28 rfl (fun w F => ?_)
  refine TC.seq ?_
  refine TC.region ?_
  refine TL.box rfl (.agg _) rfl (fun g2 => ?_)
  refine TL.run1 (pure_assign rfl) rfl ?_
  refine TL.nil' ?_
  refine TC.seq ?_
  refine TC.seq ?_
  refine TC.region ?_
  refine TL.run1 (pure_assign rfl) rfl ?_
  refine TL.nil' ?_
  refine TC.block ?_
  refine TC.loopX (X := Int) (fun i => [(1, .v (.int .i64 c)), (2, .v (.pointer (some ⟨g2, 0, none⟩))), (5, .v (.int .i64 i))]) (fun i => [.box g2 36 (encR r)]) (fun i => (0 ≤ i) ∧ (i ≤ r.cells.length) ∧ (∀ j : Int, 0 ≤ j → j < i → ¬ ((sAt (spansR r) j).1 ≤ c ∧ c < (sAt (spansR r) j).2))) (fun i => (r.cells.length - i).toNat) (0) ⟨by skip; repeat (first | exact Agree.nil | refine Agree.cons rfl ?_), by skip; repeat (first | exact List.nil_sublist _ | exact List.Sublist.refl _ | apply List.Sublist.cons_cons | apply List.Sublist.cons)⟩ ?_ ?_
  · skip
    exact ⟨by omega, by omega, fun j _ _ => by omega⟩
  intro i
  rintro ⟨h0, h1, h2⟩
  show TC _ _ _ (Env.of [(1, .v (.int .i64 c)), (2, .v (.pointer (some ⟨g2, 0, none⟩))), (5, .v (.int .i64 i))]) [.box g2 36 (encR r)]
  have hck := encCs_len r.cells
  have hrl := hr.2.1
  refine TC.seq ?_
  refine TC.seq ?_
  refine TC.region ?_
  refine TL.run1 (pure_move rfl) rfl ?_
  first | refine TL.run1 (pure_fieldAddr Ty.f36_1 rfl (.succ (.succ (.succ (.succ (.succ (.zero _)))))) (List.cons_ne_nil _ _)) rfl ?_ | refine TL.run1 (pure_fieldAddr_own Ty.f36_1 rfl) rfl ?_
  first | refine TL.run1 (pure_load1 Ty.one34 rfl) rfl ?_ | refine TL.run1 (pure_load1_own Ty.one34 rfl (by repeat (first | exact List.Mem.head _ | apply List.Mem.tail)) (by repeat (first | exact DropR.zero _ | apply DropR.succ))) rfl ?_
  first | refine TL.run1 (pure_len Ty.sl34 rfl) rfl ?_ | refine TL.run1 (pure_len_row Ty.sl34 rfl (by repeat (first | exact List.Mem.head _ | apply List.Mem.tail))) rfl ?_ | refine TL.run1 (pure_len_nil Ty.sl34 rfl) rfl ?_
  refine TL.run1 (pure_lss rfl rfl) rfl ?_
  refine TL.nil' ?_
  first | refine TC.condD rfl (fun hc12 => ?_) (fun hc12 => ?_) | refine TC.condN rfl (fun hc12 => ?_) (fun hc12 => ?_) | refine TC.cond rfl (fun hc12 => ?_) (fun hc12 => ?_)
  · try dsimp only at hc12
    refine TC.skip' ?_
    refine TC.seq ?_
    refine TC.block ?_
    refine TC.seq ?_
    refine TC.region ?_
    first | refine TL.run1 (pure_load Ty.agg36 rfl (.succ (.succ (.succ (.succ (.succ (.succ (.zero _)))))))) rfl ?_ | refine TL.run1 (pure_load_own Ty.agg36 rfl (by repeat (first | exact List.Mem.head _ | apply List.Mem.tail)) (by repeat (first | exact DropR.zero _ | apply DropR.succ)) (.succ (.succ (.succ (.succ (.succ (.succ (.zero _)))))))) rfl ?_
    refine TL.run1 (pure_move rfl) rfl ?_
    refine TL.run1 (pure_call (span_spec _ hr _ h0 (by omega)) (.cons rfl (.cons rfl .nil)) Try.call19) rfl ?_
    refine TL.run1 (pure_move rfl) rfl ?_
    refine TL.run1 (pure_extract rfl rfl) rfl ?_
    refine TL.run1 (pure_extract rfl rfl) rfl ?_
    refine TL.run1 (pure_assign rfl) rfl ?_
    refine TL.run1 (pure_assign rfl) rfl ?_
    refine TL.nil' ?_
    refine TC.regionCut [21, 22, 23, 24, 25, 26, 27, 28] 28 ((sAt (spansR r) i).1 ≤ c ∧ c < (sAt (spansR r) i).2) ?_ ?_
    · skip
      refine TL.run1 (pure_move rfl) rfl ?_
      refine TL.run1 (pure_move rfl) rfl ?_
      refine TL.run1 (pure_leq rfl rfl) rfl ?_
      refine TL.run1 (pure_move rfl) rfl ?_
      first | refine TL.splitP 24 rfl (fun hg24 => ?_) (fun hg24 => ?_) | refine TL.split 24 rfl (fun hg24 => ?_) (fun hg24 => ?_)
      · try dsimp only at hg24
        refine TL.runG rfl rfl (pure_move rfl) rfl ?_
        refine TL.runG rfl rfl (pure_move rfl) rfl ?_
        refine TL.runG rfl rfl (pure_lss rfl rfl) rfl ?_
        refine TL.run1 (pure_pick_true rfl rfl) rfl ?_
        refine TL.cutEnd (by repeat (first | exact Same.refl _ _ | refine Same.put rfl ?_)) rfl ?_
        first | (simp only [decide_eq_true_eq, Bool.false_eq_true, false_iff, true_iff, iff_true, iff_false, Bool.not_eq_true]; omega) | (simp_all; done) | (simp_all; omega) | grind
      · try dsimp only at hg24
        refine TL.passG rfl rfl rfl rfl ?_
        refine TL.passG rfl rfl rfl rfl ?_
        refine TL.passG rfl rfl rfl rfl ?_
        refine TL.run1 (pure_pick_false rfl rfl) rfl ?_
        refine TL.cutEnd (by repeat (first | exact Same.refl _ _ | refine Same.put rfl ?_)) rfl ?_
        first | (simp only [decide_eq_true_eq, Bool.false_eq_true, false_iff, true_iff, iff_true, iff_false, Bool.not_eq_true]; omega) | (simp_all; done) | (simp_all; omega) | grind
    first | refine TC.condD rfl (fun hc28 => ?_) (fun hc28 => ?_) | refine TC.condN rfl (fun hc28 => ?_) (fun hc28 => ?_) | refine TC.cond rfl (fun hc28 => ?_) (fun hc28 => ?_)
    · try dsimp only at hc28
      refine TC.seq ?_
      refine TC.region ?_
      refine TL.run1 (pure_move rfl) rfl ?_
      refine TL.run1 (pure_assign rfl) rfl ?_
      refine TL.nil' ?_
      refine TC.ret ?_
      refine block_ret ?_
      refine then_ret ?_
      refine loop_ret ?_
      refine block_ret ?_
      refine then_ret ?_
      exact ret_int rfl (firstIdx_at h0 (decide_eq_true hc28) (fun j a b => decide_eq_false (h2 j a b)) (by omega)).symm
    · try dsimp only at hc28
      refine TC.skip ?_
      refine block_normal ?_
      refine then_normal ?_
      refine TC.region ?_
      refine TL.run1 (pure_move rfl) rfl ?_
      refine TL.run1 (pure_add rfl rfl (mkI64 (by omega) (by omega))) rfl ?_
      refine TL.run1 (pure_assign rfl) rfl ?_
      refine TL.nil ?_
      refine loop_next (i + 1) ⟨by repeat (first | exact Agree.nil | refine Agree.cons rfl ?_), by repeat (first | exact List.nil_sublist _ | exact List.Sublist.refl _ | apply List.Sublist.cons_cons | apply List.Sublist.cons)⟩ ⟨by omega, by omega, fun j a b => ?_⟩ (by omega)
      rcases Int.lt_or_eq_of_le (show j ≤ i by omega) with h | h
      · exact h2 j a h
      · rw [h]; exact hc28
  · try dsimp only at hc12
    refine TC.exit ?_
    refine then_exit ?_
    refine loop_exit ?_
    refine block_here ?_
    refine then_normal ?_
    refine TC.seq ?_
    refine TC.region ?_
    refine TL.run1 (pure_assign rfl) rfl ?_
    refine TL.nil' ?_
    refine TC.ret ?_
    exact ret_int rfl (firstIdx_none fun j a b => decide_eq_false (h2 j a (by omega))).symm
set_option maxRecDepth 100000 in
theorem merge_spec (r : RowD) (hr : RowOk r) (k : Int) (h0 : 0 ≤ k) (h1 : k < r.cells.length) : Fun Try.prog 53 [.agg (encR r), .v (.int .i64 k)] (.v (.int .i64 (getP (cAt r.cells k).props 61 0))) := by
  refine Fun.enter (n := 13) (rs := [.tmp 4]) Try.func53 rfl Try.ntmps53 Try.results53 rfl (fun w F => ?_)
  refine TC.seq ?_
  refine TC.region ?_
  refine TL.box rfl (.agg _) rfl (fun g2 => ?_)
  refine TL.run1 (pure_assign rfl) rfl ?_
  refine TL.nil' ?_
  refine TC.seq ?_
  have hck := encCs_len r.cells
  have hrow := encCs_get r.cells k h0 (by omega)
  have hpl := (hr.1 _ (cAt_mem r.cells k h0 h1)).2
  refine TC.region ?_
  first | refine TL.run1 (pure_fieldAddr Ty.f36_1 rfl (.succ (.succ (.succ (.succ (.succ (.zero _)))))) (List.cons_ne_nil _ _)) rfl ?_ | refine TL.run1 (pure_fieldAddr_own Ty.f36_1 rfl) rfl ?_
  first | refine TL.run1 (pure_load1 Ty.one34 rfl) rfl ?_ | refine TL.run1 (pure_load1_own Ty.one34 rfl (by repeat (first | exact List.Mem.head _ | apply List.Mem.tail)) (by repeat (first | exact DropR.zero _ | apply DropR.succ))) rfl ?_
  refine TL.run1 (pure_move rfl) rfl ?_
  refine TL.run1 (pure_indexAddr Ty.sl34 rfl rfl (by omega) (by assumption) (List.cons_ne_nil _ _)) rfl ?_
  first | refine TL.run1 (pure_fieldAddr Ty.f74_1 rfl (.succ (.zero _)) (List.cons_ne_nil _ _)) rfl ?_ | refine TL.run1 (pure_fieldAddr_own Ty.f74_1 rfl) rfl ?_
  first | refine TL.run1 (pure_fieldAddr Ty.f33_0 rfl (.zero _) (List.cons_ne_nil _ _)) rfl ?_ | refine TL.run1 (pure_fieldAddr_own Ty.f33_0 rfl) rfl ?_
  first | refine TL.run1 (pure_load1 Ty.one27 rfl) rfl ?_ | refine TL.run1 (pure_load1_own Ty.one27 rfl (by repeat (first | exact List.Mem.head _ | apply List.Mem.tail)) (by repeat (first | exact DropR.zero _ | apply DropR.succ))) rfl ?_
  refine TL.run1 (pure_call (get_spec _ _ _ hpl) (.cons rfl (.cons rfl (.cons rfl .nil))) Try.call40) rfl ?_
  refine TL.run1 (pure_assign rfl) rfl ?_
  refine TL.nil' ?_
  refine TC.ret ?_
  exact ret_int rfl rfl
set_option maxRecDepth 100000 in
theorem Continues_spec (rs : List RowD) (hr : TabOk rs) (i k : Int) (he : existsN rs i k) : Fun Try.prog 54 [.sl 6 (encRs rs), .v (.int .i64 i), .v (.int .i64 k)] (.v (.bool (contB rs i k))) := by
  have hrl := hr.2
  refine Fun.enter (n := 59) (rs := [.tmp 6]) Try.func54 rfl Try.ntmps54 Try.results54 rfl (fun w F => ?_)
  obtain ⟨e0, e1, e2, e3⟩ := he
  have hk := encRs_len rs
  have hrow := encRs_get rs i (by omega) (by omega)
  have hro := hr.1 _ (rAt_mem rs i (by omega) (by omega))
  refine TC.seq ?_
  refine TC.region ?_
  refine TL.run1 (pure_assign rfl) rfl ?_
  refine TL.nil' ?_
  refine TC.seq ?_
  refine TC.region ?_
  refine TL.run1 (pure_move rfl) rfl ?_
  refine TL.run1 (pure_move rfl) rfl ?_
  refine TL.run1 (pure_indexAddr Ty.sl22 rfl rfl (by omega) (by assumption) (List.cons_ne_nil _ _)) rfl ?_
  first | refine TL.run1 (pure_load Ty.agg36 rfl (.succ (.succ (.succ (.succ (.succ (.succ (.zero _)))))))) rfl ?_ | refine TL.run1 (pure_load_own Ty.agg36 rfl (by repeat (first | exact List.Mem.head _ | apply List.Mem.tail)) (by repeat (first | exact DropR.zero _ | apply DropR.succ)) (.succ (.succ (.succ (.succ (.succ (.succ (.zero _)))))))) rfl ?_
  refine TL.run1 (pure_move rfl) rfl ?_
  refine TL.run1 (pure_call (span_spec _ hro _ (by omega) (by omega)) (.cons rfl (.cons rfl .nil)) Try.call19) rfl ?_
  refine TL.run1 (pure_move rfl) rfl ?_
  refine TL.run1 (pure_extract rfl rfl) rfl ?_
  refine TL.run1 (pure_extract rfl rfl) rfl ?_
  refine TL.run1 (pure_assign rfl) rfl ?_
  refine TL.run1 (pure_assign rfl) rfl ?_
  refine TL.nil' ?_
  refine TC.seq ?_
  refine TC.regionCut [20, 21, 22, 23, 24, 25, 26, 27, 28, 29, 30, 31, 32, 33, 34, 35] 35 (i = 0 ∨ (spN rs i k).1 = (spN rs i k).2 ∨ mgN rs i k ≠ 2) ?_ ?_
  · skip
    refine TL.run1 (pure_move rfl) rfl ?_
    refine TL.run1 (pure_eql rfl rfl) rfl ?_
    refine TL.run1 (pure_move rfl) rfl ?_
    first | refine TL.splitP 22 rfl (fun hg22 => ?_) (fun hg22 => ?_) | refine TL.split 22 rfl (fun hg22 => ?_) (fun hg22 => ?_)
    · try dsimp only at hg22
      refine TL.passG rfl rfl rfl rfl ?_
      refine TL.passG rfl rfl rfl rfl ?_
      refine TL.passG rfl rfl rfl rfl ?_
      refine TL.run1 (pure_pick_true rfl rfl) rfl ?_
      refine TL.run1 (pure_move rfl) rfl ?_
      refine TL.passG rfl rfl rfl rfl ?_
      refine TL.passG rfl rfl rfl rfl ?_
      refine TL.passG rfl rfl rfl rfl ?_
      refine TL.passG rfl rfl rfl rfl ?_
      refine TL.passG rfl rfl rfl rfl ?_
      refine TL.passG rfl rfl rfl rfl ?_
      refine TL.passG rfl rfl rfl rfl ?_
      refine TL.run1 (pure_pick_true rfl rfl) rfl ?_
      refine TL.cutEnd (by repeat (first | exact Same.refl _ _ | refine Same.put rfl ?_)) rfl ?_
      first | (simp only [spN, mgN] at *; simp_all; done) | grind [spN, mgN]
    · try dsimp only at hg22
      refine TL.runG rfl rfl (pure_move rfl) rfl ?_
      refine TL.runG rfl rfl (pure_move rfl) rfl ?_
      refine TL.runG rfl rfl (pure_eql rfl rfl) rfl ?_
      refine TL.run1 (pure_pick_false rfl rfl) rfl ?_
      refine TL.run1 (pure_move rfl) rfl ?_
      first | refine TL.splitP 27 rfl (fun hg27 => ?_) (fun hg27 => ?_) | refine TL.split 27 rfl (fun hg27 => ?_) (fun hg27 => ?_)
      · try dsimp only at hg27
        refine TL.passG rfl rfl rfl rfl ?_
        refine TL.passG rfl rfl rfl rfl ?_
        refine TL.passG rfl rfl rfl rfl ?_
        refine TL.passG rfl rfl rfl rfl ?_
        refine TL.passG rfl rfl rfl rfl ?_
        refine TL.passG rfl rfl rfl rfl ?_
        refine TL.passG rfl rfl rfl rfl ?_
        refine TL.run1 (pure_pick_true rfl rfl) rfl ?_
        refine TL.cutEnd (by repeat (first | exact Same.refl _ _ | refine Same.put rfl ?_)) rfl ?_
        first | (simp only [spN, mgN] at *; simp_all; done) | grind [spN, mgN]
      · try dsimp only at hg27
        refine TL.runG rfl rfl (pure_move rfl) rfl ?_
        refine TL.runG rfl rfl (pure_move rfl) rfl ?_
        refine TL.runG rfl rfl (pure_indexAddr Ty.sl22 rfl rfl (by omega) (by assumption) (List.cons_ne_nil _ _)) rfl ?_
        first | refine TL.runG rfl rfl (pure_load Ty.agg36 rfl (.succ (.succ (.succ (.succ (.succ (.succ (.zero _)))))))) rfl ?_ | refine TL.runG rfl rfl (pure_load_own Ty.agg36 rfl (by repeat (first | exact List.Mem.head _ | apply List.Mem.tail)) (by repeat (first | exact DropR.zero _ | apply DropR.succ)) (.succ (.succ (.succ (.succ (.succ (.succ (.zero _)))))))) rfl ?_
        refine TL.runG rfl rfl (pure_move rfl) rfl ?_
        first | refine TL.runG rfl rfl (pure_call (merge_spec _ hro _ (by omega) (by omega)) (.cons rfl (.cons rfl .nil)) Try.call53) rfl ?_ | refine TL.runG rfl rfl (pure_call (merge_spec _ hroj _ (by omega) hsl) (.cons rfl (.cons rfl .nil)) Try.call53) rfl ?_
        refine TL.runG rfl rfl (pure_neq rfl rfl) rfl ?_
        refine TL.run1 (pure_pick_false rfl rfl) rfl ?_
        refine TL.cutEnd (by repeat (first | exact Same.refl _ _ | refine Same.put rfl ?_)) rfl ?_
        first | (simp only [spN, mgN] at *; simp_all; done) | grind [spN, mgN]
  first | refine TC.condD rfl (fun hc35 => ?_) (fun hc35 => ?_) | refine TC.condN rfl (fun hc35 => ?_) (fun hc35 => ?_) | refine TC.cond rfl (fun hc35 => ?_) (fun hc35 => ?_)
  · try dsimp only at hc35
    refine TC.seq ?_
    refine TC.region ?_
    refine TL.run1 (pure_assign rfl) rfl ?_
    refine TL.nil' ?_
    refine TC.ret ?_
    refine then_ret ?_
    exact ret_bool rfl (by symm; unfold contB; rw [decide_eq_false_iff_not]; rintro ⟨a, b, c, _⟩; rcases hc35 with h | h | h <;> contradiction)
  · try dsimp only at hc35
    refine TC.skip' ?_
    refine TC.seq ?_
    have hrowj := encRs_get rs (i - 1) (by omega) (by omega)
    have hroj := hr.1 _ (rAt_mem rs (i - 1) (by omega) (by omega))
    refine TC.region ?_
    refine TL.run1 (pure_move rfl) rfl ?_
    refine TL.run1 (pure_move rfl) rfl ?_
    refine TL.run1 (pure_sub rfl rfl (mkI64 (by omega) (by omega))) rfl ?_
    refine TL.run1 (pure_indexAddr Ty.sl22 rfl rfl (by omega) (by assumption) (List.cons_ne_nil _ _)) rfl ?_
    first | refine TL.run1 (pure_load Ty.agg36 rfl (.succ (.succ (.succ (.succ (.succ (.succ (.zero _)))))))) rfl ?_ | refine TL.run1 (pure_load_own Ty.agg36 rfl (by repeat (first | exact List.Mem.head _ | apply List.Mem.tail)) (by repeat (first | exact DropR.zero _ | apply DropR.succ)) (.succ (.succ (.succ (.succ (.succ (.succ (.zero _)))))))) rfl ?_
    refine TL.run1 (pure_move rfl) rfl ?_
    refine TL.run1 (pure_move rfl) rfl ?_
    refine TL.run1 (pure_call (Same_spec _ hroj _ _) (.cons rfl (.cons rfl (.cons rfl .nil))) Try.call48) rfl ?_
    refine TL.run1 (pure_assign rfl) rfl ?_
    refine TL.nil' ?_
    refine TC.seq ?_
    refine TC.seq ?_
    refine TC.region ?_
    refine TL.run1 (pure_move rfl) rfl ?_
    refine TL.run1 (pure_lss rfl rfl) rfl ?_
    refine TL.nil' ?_
    first | refine TC.condD rfl (fun hc45 => ?_) (fun hc45 => ?_) | refine TC.condN rfl (fun hc45 => ?_) (fun hc45 => ?_) | refine TC.cond rfl (fun hc45 => ?_) (fun hc45 => ?_)
    · try dsimp only at hc45
      refine TC.seq ?_
      refine TC.region ?_
      refine TL.run1 (pure_assign rfl) rfl ?_
      refine TL.nil' ?_
      refine TC.ret ?_
      refine then_ret ?_
      exact ret_bool rfl (by symm; unfold contB; rw [decide_eq_false_iff_not]; rintro ⟨_, _, _, a, _⟩; have hq : sameN (rAt rs (i - 1)) (sAt (spansR (rAt rs i)) k).1 (sAt (spansR (rAt rs i)) k).2 < 0 := hc45; unfold spN at a; omega)
    · try dsimp only at hc45
      have hsl := sameN_lt (show 0 ≤ sameN (rAt rs (i - 1)) (sAt (spansR (rAt rs i)) k).1 (sAt (spansR (rAt rs i)) k).2 by omega)
      refine TC.skip' ?_
      refine TC.seq ?_
      refine TC.region ?_
      refine TL.run1 (pure_move rfl) rfl ?_
      refine TL.run1 (pure_move rfl) rfl ?_
      refine TL.run1 (pure_sub rfl rfl (mkI64 (by omega) (by omega))) rfl ?_
      refine TL.run1 (pure_indexAddr Ty.sl22 rfl rfl (by omega) (by assumption) (List.cons_ne_nil _ _)) rfl ?_
      first | refine TL.run1 (pure_load Ty.agg36 rfl (.succ (.succ (.succ (.succ (.succ (.succ (.zero _)))))))) rfl ?_ | refine TL.run1 (pure_load_own Ty.agg36 rfl (by repeat (first | exact List.Mem.head _ | apply List.Mem.tail)) (by repeat (first | exact DropR.zero _ | apply DropR.succ)) (.succ (.succ (.succ (.succ (.succ (.succ (.zero _)))))))) rfl ?_
      refine TL.run1 (pure_move rfl) rfl ?_
      first | refine TL.run1 (pure_call (merge_spec _ hro _ (by omega) (by omega)) (.cons rfl (.cons rfl .nil)) Try.call53) rfl ?_ | refine TL.run1 (pure_call (merge_spec _ hroj _ (by omega) hsl) (.cons rfl (.cons rfl .nil)) Try.call53) rfl ?_
      refine TL.run1 (pure_assign rfl) rfl ?_
      refine TL.nil' ?_
      refine TC.regionCut [53, 54, 55, 56, 57, 58, 6] 6 (mgN rs (i - 1) (sameN (rAt rs (i - 1)) (spN rs i k).1 (spN rs i k).2) = 1 ∨ mgN rs (i - 1) (sameN (rAt rs (i - 1)) (spN rs i k).1 (spN rs i k).2) = 2) ?_ ?_
      · skip
        refine TL.run1 (pure_move rfl) rfl ?_
        refine TL.run1 (pure_eql rfl rfl) rfl ?_
        refine TL.run1 (pure_move rfl) rfl ?_
        first | refine TL.splitP 55 rfl (fun hg55 => ?_) (fun hg55 => ?_) | refine TL.split 55 rfl (fun hg55 => ?_) (fun hg55 => ?_)
        · try dsimp only at hg55
          refine TL.passG rfl rfl rfl rfl ?_
          refine TL.passG rfl rfl rfl rfl ?_
          refine TL.run1 (pure_pick_true rfl rfl) rfl ?_
          refine TL.run1 (pure_assign rfl) rfl ?_
          refine TL.cutEnd (by repeat (first | exact Same.refl _ _ | refine Same.put rfl ?_)) rfl ?_
          first | (simp only [spN, mgN] at *; simp_all; done) | grind [spN, mgN]
        · try dsimp only at hg55
          refine TL.runG rfl rfl (pure_move rfl) rfl ?_
          refine TL.runG rfl rfl (pure_eql rfl rfl) rfl ?_
          refine TL.run1 (pure_pick_false rfl rfl) rfl ?_
          refine TL.run1 (pure_assign rfl) rfl ?_
          refine TL.cutEnd (by repeat (first | exact Same.refl _ _ | refine Same.put rfl ?_)) rfl ?_
          first | (simp only [spN, mgN] at *; simp_all; done) | grind [spN, mgN]
      refine TC.ret ?_
      exact ret_bool rfl (by unfold contB; rw [decide_eq_decide]; have hq : ¬ sameN (rAt rs (i - 1)) (sAt (spansR (rAt rs i)) k).1 (sAt (spansR (rAt rs i)) k).2 < 0 := hc45; constructor; intro h; refine ⟨fun e => hc35 (.inl e), fun e => hc35 (.inr (.inl e)), Decidable.not_not.1 fun e => hc35 (.inr (.inr e)), by unfold spN; omega, h⟩; rintro ⟨_, _, _, _, h⟩; exact h)
end Go.Ob
set_option linter.unusedVariables false
set_option linter.unusedSimpArgs false
namespace Go.Ob
open Go.Proofs
set_option maxRecDepth 100000 in
theorem RPlace_spec (rs : List RowD) (hr : TabOk rs) (i k : Int) (hv : Val rs i k) : Fun Try.prog 38 [.sl 6 (encRs rs), .v (.int .i64 i), .v (.int .i64 k)] (.tup [.v (.int .i64 (rectN rs i k).row), .v (.int .i64 (rectN rs i k).cell), .v (.int .i64 (rectN rs i k).bottom)]) := by
  refine Fun.enter (n := 63) (rs := [.tmp 6, .tmp 7, .tmp 8]) Try.func38 rfl Try.ntmps38 Try.results38 rfl (fun w F => ?_)
  have hk := encRs_len rs
  have hrl := hr.2
  have hv0 := hv.1
  have hv1 := hv.2.1
  have hrow := encRs_get rs i (by omega) (by omega)
  have hro := hr.1 _ (rAt_mem rs i (by omega) (by omega))
  show TC _ _ _ _ _
  refine TC.seq ?_
  refine TC.region ?_
  refine TL.run1 (pure_assign rfl) rfl ?_
  refine TL.run1 (pure_assign rfl) rfl ?_
  refine TL.run1 (pure_assign rfl) rfl ?_
  refine TL.nil' ?_
  refine TC.seq ?_
  refine TC.region ?_
  refine TL.run1 (pure_move rfl) rfl ?_
  refine TL.run1 (pure_move rfl) rfl ?_
  refine TL.run1 (pure_indexAddr Ty.sl22 rfl rfl (by omega) (by assumption) (List.cons_ne_nil _ _)) rfl ?_
  first | refine TL.run1 (pure_load Ty.agg36 rfl (.succ (.succ (.succ (.succ (.succ (.succ (.zero _)))))))) rfl ?_ | refine TL.run1 (pure_load_own Ty.agg36 rfl (by repeat (first | exact List.Mem.head _ | apply List.Mem.tail)) (by repeat (first | exact DropR.zero _ | apply DropR.succ)) (.succ (.succ (.succ (.succ (.succ (.succ (.zero _)))))))) rfl ?_
  refine TL.run1 (pure_move rfl) rfl ?_
  refine TL.run1 (pure_call (span_spec _ hro _ hv.2.2.1 hv.2.2.2.1) (.cons rfl (.cons rfl .nil)) Try.call19) rfl ?_
  refine TL.run1 (pure_move rfl) rfl ?_
  refine TL.run1 (pure_extract rfl rfl) rfl ?_
  refine TL.run1 (pure_extract rfl rfl) rfl ?_
  refine TL.run1 (pure_assign rfl) rfl ?_
  refine TL.run1 (pure_assign rfl) rfl ?_
  refine TL.nil' ?_
  refine TC.seq ?_
  refine TC.region ?_
  refine TL.run1 (pure_move rfl) rfl ?_
  refine TL.run1 (pure_move rfl) rfl ?_
  refine TL.run1 (pure_move rfl) rfl ?_
  refine TL.run1 (pure_add rfl rfl (mkI64 (by omega) (by omega))) rfl ?_
  refine TL.run1 (pure_assign rfl) rfl ?_
  refine TL.run1 (pure_assign rfl) rfl ?_
  refine TL.run1 (pure_assign rfl) rfl ?_
  refine TL.nil' ?_
  refine TC.seq ?_
  refine TC.block ?_
  refine TC.loopX (X := Int × Int) (fun (tp, fs) => [(0, .sl 6 (encRs rs)), (6, .v (.int .i64 tp)), (7, .v (.int .i64 fs)), (8, .v (.int .i64 (i + 1))), (9, .v (.int .i64 (spN rs i k).1)), (10, .v (.int .i64 (spN rs i k).2))]) (fun (tp, fs) => []) (fun (tp, fs) => (0 ≤ tp) ∧ (tp ≤ i) ∧ (Val rs tp fs) ∧ (spN rs tp fs = (spN rs i k)) ∧ (topN rs (spN rs i k) tp.toNat = topN rs (spN rs i k) i.toNat)) (fun (tp, fs) => tp.toNat) (i, k) ⟨by skip; repeat (first | exact Agree.nil | refine Agree.cons rfl ?_), by skip; repeat (first | exact List.nil_sublist _ | exact List.Sublist.refl _ | apply List.Sublist.cons_cons | apply List.Sublist.cons)⟩ ?_ ?_
  · skip
    exact ⟨hv.1, Int.le_refl _, hv, rfl, rfl⟩
  rintro ⟨tp, fs⟩
  rintro ⟨h0, h1, h2, h3, h4⟩
  show TC _ _ _ (Env.of [(0, .sl 6 (encRs rs)), (6, .v (.int .i64 tp)), (7, .v (.int .i64 fs)), (8, .v (.int .i64 (i + 1))), (9, .v (.int .i64 (spN rs i k).1)), (10, .v (.int .i64 (spN rs i k).2))]) []
  have hex1 : existsN rs tp fs := (place_val.1 h2).1
  refine TC.seq ?_
  refine TC.seq ?_
  refine TC.region ?_
  refine TL.run1 (pure_move rfl) rfl ?_
  refine TL.run1 (pure_move rfl) rfl ?_
  refine TL.run1 (pure_move rfl) rfl ?_
  first | refine TL.run1 (pure_call (Continues_spec _ hr _ _ hex1) (.cons rfl (.cons rfl (.cons rfl .nil))) Try.call54) rfl ?_ | refine TL.run1 (pure_call (Continues_spec _ hr _ _ hex2) (.cons rfl (.cons rfl (.cons rfl .nil))) Try.call54) rfl ?_
  refine TL.nil' ?_
  first | refine TC.condD rfl (fun hc28 => ?_) (fun hc28 => ?_) | refine TC.condN rfl (fun hc28 => ?_) (fun hc28 => ?_) | refine TC.cond rfl (fun hc28 => ?_) (fun hc28 => ?_)
  · try dsimp only at hc28
    have hcb : contB rs tp fs = true := decide_eq_true hc28
    refine TC.skip' ?_
    refine TC.block ?_
    refine TC.seq ?_
    refine TC.region ?_
    refine TL.run1 (pure_move rfl) rfl ?_
    refine TL.run1 (pure_sub rfl rfl (mkI64 (by omega) (by omega))) rfl ?_
    refine TL.run1 (pure_assign rfl) rfl ?_
    refine TL.nil' ?_
    have hge : 1 ≤ tp := by (rcases Int.lt_or_eq_of_le h0 with h | h; omega; (rw [← h, contB_zero] at hcb; cases hcb))
    have htl := h2.2.1
    have hrow1 := encRs_get rs (tp - 1) (by omega) (by omega)
    have hro1 := hr.1 _ (rAt_mem rs (tp - 1) (by omega) (by omega))
    refine TC.region ?_
    refine TL.run1 (pure_move rfl) rfl ?_
    refine TL.run1 (pure_move rfl) rfl ?_
    refine TL.run1 (pure_indexAddr Ty.sl22 rfl rfl (by omega) (by assumption) (List.cons_ne_nil _ _)) rfl ?_
    first | refine TL.run1 (pure_load Ty.agg36 rfl (.succ (.succ (.succ (.succ (.succ (.succ (.zero _)))))))) rfl ?_ | refine TL.run1 (pure_load_own Ty.agg36 rfl (by repeat (first | exact List.Mem.head _ | apply List.Mem.tail)) (by repeat (first | exact DropR.zero _ | apply DropR.succ)) (.succ (.succ (.succ (.succ (.succ (.succ (.zero _)))))))) rfl ?_
    refine TL.run1 (pure_move rfl) rfl ?_
    refine TL.run1 (pure_move rfl) rfl ?_
    first | refine TL.run1 (pure_call (Same_spec _ hro1 _ _) (.cons rfl (.cons rfl (.cons rfl .nil))) Try.call48) rfl ?_ | refine TL.run1 (pure_call (Same_spec _ hro2 _ _) (.cons rfl (.cons rfl (.cons rfl .nil))) Try.call48) rfl ?_
    refine TL.run1 (pure_assign rfl) rfl ?_
    refine TL.nil ?_
    refine block_normal ?_
    have hcs : csB rs (spN rs i k) tp = true := by (have := csB_val h2; rw [h3] at this; rw [this]; exact hcb)
    have hge : 1 ≤ tp := by (rcases Int.lt_or_eq_of_le h0 with h | h; omega; (rw [← h, contB_zero] at hcb; cases hcb))
    have hcont : CS rs (spN rs i k) tp := (csB_iff h0 h2.2.1).1 hcs
    obtain ⟨q1, q2, a1, a2, a3, a4, a5, a6⟩ := hcont
    have hsm := sameN_val a4
    rw [a5] at hsm
    refine loop_next (tp - 1, sameN (rAt rs (tp - 1)) (spN rs i k).1 (spN rs i k).2) ⟨by repeat (first | exact Agree.nil | refine Agree.cons rfl ?_), by repeat (first | exact List.nil_sublist _ | exact List.Sublist.refl _ | apply List.Sublist.cons_cons | apply List.Sublist.cons)⟩ ⟨by omega, by omega, by rw [hsm]; exact a4, by rw [hsm]; exact a5, by rw [← topN_step hge hcs]; exact h4⟩ (by dsimp only; omega)
  · try dsimp only at hc28
    have hcb : contB rs tp fs = false := decide_eq_false hc28
    refine TC.exit ?_
    refine then_exit ?_
    refine loop_exit ?_
    refine block_here ?_
    refine then_normal ?_
    refine TC.seq ?_
    refine TC.block ?_
    refine TC.loopX (X := Int) (fun bt => [(0, .sl 6 (encRs rs)), (6, .v (.int .i64 tp)), (7, .v (.int .i64 fs)), (8, .v (.int .i64 bt)), (9, .v (.int .i64 (spN rs i k).1)), (10, .v (.int .i64 (spN rs i k).2))]) (fun bt => []) (fun bt => (i + 1 ≤ bt) ∧ (bt ≤ rs.length) ∧ (botN rs (spN rs i k) bt.toNat (rs.length - bt.toNat) = botN rs (spN rs i k) (i.toNat + 1) (rs.length - (i.toNat + 1)))) (fun bt => (rs.length - bt).toNat) (i + 1) ⟨by skip; repeat (first | exact Agree.nil | refine Agree.cons rfl ?_), by skip; repeat (first | exact List.nil_sublist _ | exact List.Sublist.refl _ | apply List.Sublist.cons_cons | apply List.Sublist.cons)⟩ ?_ ?_
    · skip
      exact ⟨Int.le_refl _, by have := hv.2.1; omega, by rw [show (i + 1).toNat = i.toNat + 1 by have := hv.1; omega]⟩
    intro bt
    rintro ⟨k0, k1, k2⟩
    show TC _ _ _ (Env.of [(0, .sl 6 (encRs rs)), (6, .v (.int .i64 tp)), (7, .v (.int .i64 fs)), (8, .v (.int .i64 bt)), (9, .v (.int .i64 (spN rs i k).1)), (10, .v (.int .i64 (spN rs i k).2))]) []
    refine TC.seq ?_
    refine TC.seq ?_
    refine TC.region ?_
    refine TL.run1 (pure_move rfl) rfl ?_
    refine TL.run1 (pure_move rfl) rfl ?_
    first | refine TL.run1 (pure_len Ty.sl22 rfl) rfl ?_ | refine TL.run1 (pure_len_row Ty.sl22 rfl (by repeat (first | exact List.Mem.head _ | apply List.Mem.tail))) rfl ?_ | refine TL.run1 (pure_len_nil Ty.sl22 rfl) rfl ?_
    refine TL.run1 (pure_lss rfl rfl) rfl ?_
    refine TL.nil' ?_
    first | refine TC.condD rfl (fun hc41 => ?_) (fun hc41 => ?_) | refine TC.condN rfl (fun hc41 => ?_) (fun hc41 => ?_) | refine TC.cond rfl (fun hc41 => ?_) (fun hc41 => ?_)
    · try dsimp only at hc41
      refine TC.skip' ?_
      refine TC.block ?_
      refine TC.seq ?_
      have hrow2 := encRs_get rs bt (by omega) (by omega)
      have hro2 := hr.1 _ (rAt_mem rs bt (by omega) (by omega))
      refine TC.region ?_
      refine TL.run1 (pure_move rfl) rfl ?_
      refine TL.run1 (pure_move rfl) rfl ?_
      refine TL.run1 (pure_indexAddr Ty.sl22 rfl rfl (by omega) (by assumption) (List.cons_ne_nil _ _)) rfl ?_
      first | refine TL.run1 (pure_load Ty.agg36 rfl (.succ (.succ (.succ (.succ (.succ (.succ (.zero _)))))))) rfl ?_ | refine TL.run1 (pure_load_own Ty.agg36 rfl (by repeat (first | exact List.Mem.head _ | apply List.Mem.tail)) (by repeat (first | exact DropR.zero _ | apply DropR.succ)) (.succ (.succ (.succ (.succ (.succ (.succ (.zero _)))))))) rfl ?_
      refine TL.run1 (pure_move rfl) rfl ?_
      refine TL.run1 (pure_move rfl) rfl ?_
      first | refine TL.run1 (pure_call (Same_spec _ hro1 _ _) (.cons rfl (.cons rfl (.cons rfl .nil))) Try.call48) rfl ?_ | refine TL.run1 (pure_call (Same_spec _ hro2 _ _) (.cons rfl (.cons rfl (.cons rfl .nil))) Try.call48) rfl ?_
      refine TL.run1 (pure_assign rfl) rfl ?_
      refine TL.nil' ?_
      refine TC.seq ?_
      refine TC.regionCut [49, 50, 51, 52, 53, 54, 55, 56, 57] 57 (csB rs (spN rs i k) bt = false) ?_ ?_
      · skip
        refine TL.run1 (pure_move rfl) rfl ?_
        refine TL.run1 (pure_lss rfl rfl) rfl ?_
        refine TL.run1 (pure_move rfl) rfl ?_
        first | refine TL.splitP 51 rfl (fun hg51 => ?_) (fun hg51 => ?_) | refine TL.split 51 rfl (fun hg51 => ?_) (fun hg51 => ?_)
        · try dsimp only at hg51
          refine TL.passG rfl rfl rfl rfl ?_
          refine TL.passG rfl rfl rfl rfl ?_
          refine TL.passG rfl rfl rfl rfl ?_
          refine TL.passG rfl rfl rfl rfl ?_
          refine TL.passG rfl rfl rfl rfl ?_
          refine TL.run1 (pure_pick_true rfl rfl) rfl ?_
          refine TL.cutEnd (by repeat (first | exact Same.refl _ _ | refine Same.put rfl ?_)) rfl ?_
          first | (simp only [csB]; simp_all; done) | grind [csB, spN]
        · try dsimp only at hg51
          have hsl := sameN_lt (show 0 ≤ sameN (rAt rs bt) (spN rs i k).1 (spN rs i k).2 by omega)
          have hex2 : existsN rs bt (sameN (rAt rs bt) (spN rs i k).1 (spN rs i k).2) := ⟨by omega, by omega, by omega, by omega⟩
          refine TL.runG rfl rfl (pure_move rfl) rfl ?_
          refine TL.runG rfl rfl (pure_move rfl) rfl ?_
          refine TL.runG rfl rfl (pure_move rfl) rfl ?_
          first | refine TL.runG rfl rfl (pure_call (Continues_spec _ hr _ _ hex1) (.cons rfl (.cons rfl (.cons rfl .nil))) Try.call54) rfl ?_ | refine TL.runG rfl rfl (pure_call (Continues_spec _ hr _ _ hex2) (.cons rfl (.cons rfl (.cons rfl .nil))) Try.call54) rfl ?_
          refine TL.runG rfl rfl (pure_not rfl) rfl ?_
          refine TL.run1 (pure_pick_false rfl rfl) rfl ?_
          refine TL.cutEnd (by repeat (first | exact Same.refl _ _ | refine Same.put rfl ?_)) rfl ?_
          first | (simp only [csB]; simp_all; done) | grind [csB, spN]
      first | refine TC.condD rfl (fun hc57 => ?_) (fun hc57 => ?_) | refine TC.condN rfl (fun hc57 => ?_) (fun hc57 => ?_) | refine TC.cond rfl (fun hc57 => ?_) (fun hc57 => ?_)
      · try dsimp only at hc57
        refine TC.exit ?_
        refine then_exit ?_
        refine block_past rfl ?_
        refine loop_exit ?_
        refine block_here ?_
        refine then_normal ?_
        refine TC.seq ?_
        have htop : tp = topN rs (spN rs i k) i.toNat := by
          have hcs : csB rs (spN rs i k) tp = false := by (have := csB_val h2; rw [h3] at this; rw [this]; exact hcb)
          have := topN_stop h0 hcs
          omega
        have hfs : fs = sameN (rAt rs tp) (spN rs i k).1 (spN rs i k).2 := by rw [← h3]; exact (sameN_val h2).symm
        have hbot : bt = botN rs (spN rs i k) (i.toNat + 1) (rs.length - (i.toNat + 1)) := by (have h := botN_stop (rs := rs) (s := (spN rs i k)) (b := bt) (by omega) (.inl hc57); omega)
        refine TC.region ?_
        refine TL.run1 (pure_move rfl) rfl ?_
        refine TL.run1 (pure_move rfl) rfl ?_
        refine TL.run1 (pure_move rfl) rfl ?_
        refine TL.run1 (pure_assign rfl) rfl ?_
        refine TL.run1 (pure_assign rfl) rfl ?_
        refine TL.run1 (pure_assign rfl) rfl ?_
        refine TL.nil' ?_
        refine TC.ret ?_
        exact ret3 (.inl rfl) rfl rfl rfl (by rw [hfs, htop, hbot]; rfl)
      · try dsimp only at hc57
        refine TC.skip' ?_
        refine TC.region ?_
        refine TL.run1 (pure_move rfl) rfl ?_
        refine TL.run1 (pure_add rfl rfl (mkI64 (by omega) (by omega))) rfl ?_
        refine TL.run1 (pure_assign rfl) rfl ?_
        refine TL.nil ?_
        refine block_normal ?_
        have hcs : csB rs (spN rs i k) bt = true := by simpa using hc57
        refine loop_next (bt + 1) ⟨by repeat (first | exact Agree.nil | refine Agree.cons rfl ?_), by repeat (first | exact List.nil_sublist _ | exact List.Sublist.refl _ | apply List.Sublist.cons_cons | apply List.Sublist.cons)⟩ ⟨by omega, by omega, by rw [← botN_step (by have := hv.1; omega) (by omega) hcs]; exact k2⟩ (by omega)
    · try dsimp only at hc41
      refine TC.exit ?_
      refine then_exit ?_
      refine loop_exit ?_
      refine block_here ?_
      refine then_normal ?_
      refine TC.seq ?_
      have htop : tp = topN rs (spN rs i k) i.toNat := by
        have hcs : csB rs (spN rs i k) tp = false := by (have := csB_val h2; rw [h3] at this; rw [this]; exact hcb)
        have := topN_stop h0 hcs
        omega
      have hfs : fs = sameN (rAt rs tp) (spN rs i k).1 (spN rs i k).2 := by rw [← h3]; exact (sameN_val h2).symm
      have hbot : bt = botN rs (spN rs i k) (i.toNat + 1) (rs.length - (i.toNat + 1)) := by (have h := botN_stop (rs := rs) (s := (spN rs i k)) (b := bt) (by omega) (.inr (by omega)); omega)
      refine TC.region ?_
      refine TL.run1 (pure_move rfl) rfl ?_
      refine TL.run1 (pure_move rfl) rfl ?_
      refine TL.run1 (pure_move rfl) rfl ?_
      refine TL.run1 (pure_assign rfl) rfl ?_
      refine TL.run1 (pure_assign rfl) rfl ?_
      refine TL.run1 (pure_assign rfl) rfl ?_
      refine TL.nil' ?_
      refine TC.ret ?_
      exact ret3 (.inl rfl) rfl rfl rfl (by rw [hfs, htop, hbot]; rfl)
end Go.Ob
set_option linter.unusedVariables false
set_option linter.unusedSimpArgs false
namespace Go.Ob
open Go.Proofs
theorem val_col {rs : List RowD} {i k c : Int} (h : existsN rs i k) (h1 : (spN rs i k).1 ≤ c) (h2 : c < (spN rs i k).2) : Val rs i k := place_val.2 ⟨h, by omega⟩
theorem atN_cell {rs : List RowD} {i k c : Int} (h : Val rs i k) (h1 : (spN rs i k).1 ≤ c) (h2 : c < (spN rs i k).2) : atN (rAt rs i) c = k := by
  have e := h.2.2.2.1
  refine firstIdx_at h.2.2.1 (decide_eq_true ⟨h1, h2⟩) (fun j a b => decide_eq_false fun hh => ?_) e
  have := sAt_col (r := rAt rs i) (j := j) (k := k) (c := c) a (by unfold ncN at e; omega) h.2.2.1 e hh.1 hh.2 h1 h2
  omega
theorem atN_of {rs : List RowD} {i c : Int} (h0 : 0 ≤ i) (h1 : i < rs.length) (h : 0 ≤ atN (rAt rs i) c) : Val rs i (atN (rAt rs i) c) ∧ (spN rs i (atN (rAt rs i) c)).1 ≤ c ∧ c < (spN rs i (atN (rAt rs i) c)).2 := by
  rcases firstIdx_spec (fun k => decide ((sAt (spansR (rAt rs i)) k).1 ≤ c ∧ c < (sAt (spansR (rAt rs i)) k).2)) (rAt rs i).cells.length with ⟨a, _⟩ | ⟨_, b, d, _⟩
  · have : atN (rAt rs i) c = -1 := a
    omega
  · have d' := of_decide_eq_true d
    exact ⟨val_col ⟨h0, h1, h, b⟩ d'.1 d'.2, d'.1, d'.2⟩
theorem spanN_pos (c : CellD) : 1 ≤ spanN c := by unfold spanN; omega
end Go.Ob
set_option linter.unusedVariables false
set_option linter.unusedSimpArgs false
namespace Go.Ob
open Go.Proofs
theorem widthN_le (rs : List RowD) : ∀ i, widthN rs i ≤ 32
  | 0 => by simp [widthN]
  | i + 1 => by
    have := widthN_le rs i
    have := sp_range (rAt rs i) (rAt rs i).cells.length (by omega) (Int.le_refl _)
    unfold widthN; omega
end Go.Ob
set_option linter.unusedVariables false
set_option linter.unusedSimpArgs false
namespace Go.Ob
open Go.Proofs
structure A4 where
  t : Int
  l : Int
  b : Int
  r : Int
deriving DecidableEq
def encA (a : A4) : List D := [.v (.int .i64 a.t), .v (.int .i64 a.l), .v (.int .i64 a.b), .v (.int .i64 a.r)]
def a0 : A4 := ⟨0, 0, 0, 0⟩
def MeetQ (q : R6) (a : A4) : Prop := q.top < a.b ∧ a.t < q.bottom ∧ q.left < a.r ∧ a.l < q.right
instance (q : R6) (a : A4) : Decidable (MeetQ q a) := by unfold MeetQ; infer_instance
def SubQ (q : R6) (a : A4) : Prop := a.t ≤ q.top ∧ q.bottom ≤ a.b ∧ a.l ≤ q.left ∧ q.right ≤ a.r
instance (q : R6) (a : A4) : Decidable (SubQ q a) := by unfold SubQ; infer_instance
def LeA (a c : A4) : Prop := c.t ≤ a.t ∧ c.l ≤ a.l ∧ a.b ≤ c.b ∧ a.r ≤ c.r
def growA (q : R6) (a : A4) : A4 := ⟨min a.t q.top, min a.l q.left, max a.b q.bottom, max a.r q.right⟩
def ClosedA (l : List R6) (a : A4) : Prop := ∀ q ∈ l, MeetQ q a → SubQ q a
theorem LeA.refl (a : A4) : LeA a a := ⟨Int.le_refl _, Int.le_refl _, Int.le_refl _, Int.le_refl _⟩
theorem LeA.trans {a b c : A4} (h : LeA a b) (k : LeA b c) : LeA a c := by unfold LeA at *; omega
theorem LeA.anti {a b : A4} (h : LeA a b) (k : LeA b a) : a = b := by
  cases a; cases b
  unfold LeA at *
  simp only at h k
  simp only [A4.mk.injEq]
  omega
theorem le_grow (q : R6) (a : A4) : LeA a (growA q a) := by unfold LeA growA; simp only; omega
theorem grow_least {q : R6} {l : List R6} {a d : A4} (hq : q ∈ l) (hm : MeetQ q a) (hd : LeA a d) (hc : ClosedA l d) : LeA (growA q a) d := by
  have h : MeetQ q d := by unfold MeetQ LeA at *; omega
  have s := hc q hq h
  unfold SubQ LeA growA at *
  simp only
  omega
def stepA4 (a : A4) (q : R6) : A4 := if MeetQ q a then growA q a else a
theorem le_step (a : A4) (q : R6) : LeA a (stepA4 a q) := by
  unfold stepA4; split
  · exact le_grow q a
  · exact LeA.refl a
theorem step_least {q : R6} {l : List R6} {a d : A4} (hq : q ∈ l) (hd : LeA a d) (hc : ClosedA l d) : LeA (stepA4 a q) d := by
  unfold stepA4; split
  · exact grow_least hq (by assumption) hd hc
  · exact hd
def passTo (l : List R6) (a : A4) : Nat → A4
  | 0 => a
  | k + 1 => stepA4 (passTo l a k) (qAt l k)
def passN (l : List R6) (a : A4) : A4 := passTo l a l.length
theorem qAt_mem (l : List R6) (k : Int) (h0 : 0 ≤ k) (h1 : k < l.length) : qAt l k ∈ l := by
  have : k.toNat < l.length := by omega
  simp [qAt, this]
theorem passTo_le (l : List R6) (a : A4) (i : Nat) : ∀ d, LeA (passTo l a i) (passTo l a (i + d))
  | 0 => LeA.refl _
  | d + 1 => (passTo_le l a i d).trans (by rw [← Nat.add_assoc, passTo]; exact le_step _ _)
theorem pass_le (l : List R6) (a : A4) : LeA a (passN l a) := by
  have := passTo_le l a 0 l.length
  rwa [Nat.zero_add] at this
theorem passTo_least {l : List R6} {a d : A4} (hd : LeA a d) (hc : ClosedA l d) : ∀ k, k ≤ l.length → LeA (passTo l a k) d
  | 0, _ => hd
  | k + 1, h => by rw [passTo]; exact step_least (qAt_mem l k (by omega) (by omega)) (passTo_least hd hc k (by omega)) hc
theorem pass_fix {l : List R6} {a : A4} (h : passN l a = a) : ClosedA l a := by
  intro q hq hm
  obtain ⟨k, hk, rfl⟩ := List.getElem_of_mem hq
  have h1 : passTo l a k = a := by
    have x := passTo_le l a 0 k
    have y := passTo_le l a k (l.length - k)
    rw [Nat.zero_add] at x
    rw [show k + (l.length - k) = l.length by omega] at y
    have z : passTo l a l.length = a := h
    rw [z] at y
    exact (x.anti y).symm
  have h2 : passTo l a (k + 1) = a := by
    have x := passTo_le l a 0 (k + 1)
    have y := passTo_le l a (k + 1) (l.length - (k + 1))
    rw [Nat.zero_add] at x
    rw [show k + 1 + (l.length - (k + 1)) = l.length by omega] at y
    have z : passTo l a l.length = a := h
    rw [z] at y
    exact (x.anti y).symm
  have e : qAt l k = l[k] := by simp [qAt, hk]
  rw [passTo, h1, e] at h2
  unfold stepA4 at h2
  rw [if_pos hm] at h2
  have g : LeA (growA l[k] a) a := by rw [h2]; exact LeA.refl a
  unfold LeA growA at g
  simp only at g
  unfold SubQ
  omega
structure IsCov (l : List R6) (a c : A4) : Prop where
  le : LeA a c
  closed : ClosedA l c
  least : ∀ d, LeA a d → ClosedA l d → LeA c d
theorem IsCov.unique {l : List R6} {a c d : A4} (h : IsCov l a c) (k : IsCov l a d) : c = d := (h.least d k.le k.closed).anti (k.least c h.le h.closed)
theorem IsCov.self {l : List R6} {a : A4} (h : ClosedA l a) : IsCov l a a := ⟨LeA.refl a, h, fun _ hd _ => hd⟩
def InA (m : Int) (a : A4) : Prop := 0 ≤ a.t ∧ 0 ≤ a.l ∧ a.b ≤ m ∧ a.r ≤ 32
def muA (m : Int) (a : A4) : Nat := (a.t + a.l + (m - a.b) + (32 - a.r)).toNat
theorem mu_lt {m : Int} {a c : A4} (h : LeA a c) (hne : a ≠ c) (hc : InA m c) : muA m c < muA m a := by
  have : ¬ (a.t = c.t ∧ a.l = c.l ∧ a.b = c.b ∧ a.r = c.r) := fun ⟨h1, h2, h3, h4⟩ => hne (by cases a; cases c; simp_all)
  unfold muA LeA InA at *
  omega
def iterN (l : List R6) : Nat → A4 → A4
  | 0, a => a
  | n + 1, a => if passN l a = a then a else iterN l n (passN l a)
theorem pass_in {l : List R6} {m : Int} (hl : ∀ q ∈ l, 0 ≤ q.top ∧ 0 ≤ q.left ∧ q.bottom ≤ m ∧ q.right ≤ 32) {a : A4} (ha : InA m a) : ∀ k, k ≤ l.length → InA m (passTo l a k)
  | 0, _ => ha
  | k + 1, h => by
    have ih := pass_in hl ha k (by omega)
    have hq := hl _ (qAt_mem l k (by omega) (by omega))
    rw [passTo]
    unfold stepA4
    split
    · unfold InA growA at *; simp only; omega
    · exact ih
theorem iter_cov {l : List R6} {m : Int} (hl : ∀ q ∈ l, 0 ≤ q.top ∧ 0 ≤ q.left ∧ q.bottom ≤ m ∧ q.right ≤ 32) : ∀ (n : Nat) (a : A4), InA m a → muA m a ≤ n → IsCov l a (iterN l n a)
  | 0, a, ha, hn => by
    have hp := pass_in hl ha l.length (Nat.le_refl _)
    have : passN l a = a := Classical.byContradiction fun hne => by
      have := mu_lt (pass_le l a) (fun h => hne h.symm) hp
      omega
    exact IsCov.self (pass_fix this)
  | n + 1, a, ha, hn => by
    rw [iterN]
    split
    · rename_i h; exact IsCov.self (pass_fix h)
    · rename_i hne
      have hp := pass_in hl ha l.length (Nat.le_refl _)
      have hm := mu_lt (pass_le l a) (fun h => hne h.symm) hp
      have ih := iter_cov hl n (passN l a) hp (by have : muA m (passN l a) < muA m a := hm; omega)
      exact ⟨(pass_le l a).trans ih.le, ih.closed, fun d hd hc => ih.least d (passTo_least hd hc _ (Nat.le_refl _)) hc⟩
theorem rect_in {rs : List RowD} : ∀ q ∈ layRects rs, 0 ≤ q.top ∧ 0 ≤ q.left ∧ q.bottom ≤ rs.length ∧ q.right ≤ 32 := by
  intro q hq
  obtain ⟨k, hk, rfl⟩ := List.getElem_of_mem hq
  have e : qAt (layRects rs) k = (layRects rs)[k] := by simp [qAt, hk]
  rw [← e]
  have r := (lay_final rs).C (k : Int) (by omega) (by show (k : Int) < ((layRects rs).length : Int); omega)
  have s := sAt_le (rAt rs (qAt (layRects rs) k).row) (qAt (layRects rs) k).cell r.val.2.2.1 r.val.2.2.2.1
  have es : sAt (spansR (rAt rs (qAt (layRects rs) k).row)) (qAt (layRects rs) k).cell = _ := r.sp
  rw [es] at s
  simp only at s
  have ht : (qAt (layRects rs) k).top = (qAt (layRects rs) k).row := r.top
  have h0 : 0 ≤ (qAt (layRects rs) k).row := r.val.1
  have hb : (qAt (layRects rs) k).bottom ≤ rs.length := by
    rcases r.last with h | ⟨h, k2, _, v, _⟩
    · exact h
    · have := v.2.1; omega
  exact ⟨by omega, s.1, hb, s.2.2⟩
def covN (rs : List RowD) (a : A4) : A4 := iterN (layRects rs) (muA rs.length a) a
theorem covN_cov {rs : List RowD} {a : A4} (h : InA rs.length a) : IsCov (layRects rs) a (covN rs a) := iter_cov rect_in _ a h (Nat.le_refl _)
def InsideA (rs : List RowD) (a : A4) : Prop := 0 ≤ a.t ∧ a.t < a.b ∧ a.b ≤ rs.length ∧ 0 ≤ a.l ∧ a.l < a.r ∧ a.r ≤ widthN rs rs.length
instance (rs : List RowD) (a : A4) : Decidable (InsideA rs a) := by unfold InsideA; infer_instance
theorem InsideA.inA {rs : List RowD} {a : A4} (h : InsideA rs a) : InA rs.length a := by
  have := widthN_le rs rs.length
  unfold InsideA InA at *; omega
theorem meet_cell {rs : List RowD} {q : R6} (hq : q ∈ layRects rs) {a : A4} (hm : MeetQ q a) (hab : a.t < a.b) : ∃ i k, a.t ≤ i ∧ i < a.b ∧ Val rs i k ∧ q = rectN rs i k ∧ (spN rs i k).1 < a.r ∧ a.l < (spN rs i k).2 := by
  obtain ⟨n, hn, rfl⟩ := List.getElem_of_mem hq
  have e : qAt (layRects rs) n = (layRects rs)[n] := by simp [qAt, hn]
  rw [← e] at hm ⊢
  have r := (lay_final rs).C (n : Int) (by omega) (by show (n : Int) < ((layRects rs).length : Int); omega)
  have ht : (qAt (layRects rs) n).top = (qAt (layRects rs) n).row := r.top
  have hrb : (qAt (layRects rs) n).row < (qAt (layRects rs) n).bottom := r.rb
  obtain ⟨h1, h2, h3, h4⟩ := hm
  have hi : ∃ i, i = max (qAt (layRects rs) n).row a.t := ⟨_, rfl⟩
  obtain ⟨i, hi⟩ := hi
  have hc : ∃ k, Val rs i k ∧ Cov (qAt (layRects rs) n) (spN rs i k) i := by
    rcases Int.lt_or_eq_of_le (show (qAt (layRects rs) n).row ≤ i by omega) with hl | hl
    · obtain ⟨k, k', x, y, _⟩ := r.cs i hl (by show i < (qAt (layRects rs) n).bottom; omega)
      exact ⟨k, x, y.symm, by show (qAt (layRects rs) n).row ≤ i; omega, by show i < (qAt (layRects rs) n).bottom; omega⟩
    · rw [← hl]
      exact ⟨(qAt (layRects rs) n).cell, r.val, r.sp.symm, Int.le_refl _, hrb⟩
  obtain ⟨k, v, c⟩ := hc
  have e1 : (qAt (layRects rs) n).left = (spN rs i k).1 := congrArg Prod.fst c.1
  have e2 : (qAt (layRects rs) n).right = (spN rs i k).2 := congrArg Prod.snd c.1
  exact ⟨i, k, by omega, by omega, v, rect_eq r v c, by omega, by omega⟩
theorem rectN_mem {rs : List RowD} {i k : Int} (h : Val rs i k) : rectN rs i k ∈ layRects rs := by
  obtain ⟨n, _, b, c, d⟩ := look_of h
  rw [← d]; exact qAt_mem _ n b c
theorem rectN_row {rs : List RowD} {i k : Int} (h : Val rs i k) : (rectN rs i k).top ≤ i ∧ i < (rectN rs i k).bottom ∧ (rectN rs i k).left = (spN rs i k).1 ∧ (rectN rs i k).right = (spN rs i k).2 ∧ (rectN rs i k).row = (rectN rs i k).top := by
  have hi : ((i.toNat : Nat) : Int) = i := by have := h.1; omega
  have ht := topN_spec rs (spN rs i k) i.toNat (by have := h.1; have := h.2.1; omega)
  have hb := botN_spec rs (spN rs i k) (rs.length - (i.toNat + 1)) (i.toNat + 1) (by have := h.1; have := h.2.1; omega)
  unfold rectN
  simp only
  refine ⟨by have := ht.1; omega, by have := hb.1; omega, trivial, trivial, trivial⟩
end Go.Ob
