import Derived.Test.YtlhjcleejolbiaaSp
import Derived.Test.YtlhjcleejolbiaaW4
set_option linter.unusedVariables false
set_option linter.unusedSimpArgs false
namespace Go.Ob
open Go.Proofs

/-! ### a table without a row, or without a cell -/
def dropC (r : RowD) (c : Int) : RowD := { r with cells := r.cells.take c.toNat ++ r.cells.drop (c + 1).toNat }
def rowX (rs : List RowD) (row cell : Int) (i : Nat) : List RowD := if (i : Int) = row then (if existsN rs row cell then [dropC (rAt rs row) cell] else []) else [rAt rs (i : Nat)]
def leftTo (rs : List RowD) (row cell : Int) : Nat → List RowD
  | 0 => []
  | i + 1 => leftTo rs row cell i ++ rowX rs row cell i
theorem rowX_len (rs : List RowD) (row cell : Int) (i : Nat) : (rowX rs row cell i).length ≤ 1 := by
  unfold rowX; (repeat' split) <;> simp
theorem leftTo_len (rs : List RowD) (row cell : Int) : ∀ n, (leftTo rs row cell n).length ≤ n
  | 0 => Nat.le_refl _
  | n + 1 => by
    have := leftTo_len rs row cell n
    have := rowX_len rs row cell n
    rw [leftTo, List.length_append]; omega
theorem dropC_ok {r : RowD} (h : RowOk r) (c : Int) : RowOk (dropC r c) := by
  have hl : (dropC r c).cells.length ≤ r.cells.length ∨ (dropC r c).cells.length ≤ r.cells.length + r.cells.length := .inr (by
    show (r.cells.take c.toNat ++ r.cells.drop (c + 1).toNat).length ≤ _
    rw [List.length_append, List.length_take, List.length_drop]; omega)
  refine ⟨fun x hx => ?_, ?_, ?_⟩
  · rcases List.mem_append.1 hx with hx | hx
    · exact h.1 x (List.mem_of_mem_take hx)
    · exact h.1 x (List.mem_of_mem_drop hx)
  · show (r.cells.take c.toNat ++ r.cells.drop (c + 1).toNat).length ≤ _
    rw [List.length_append, List.length_take, List.length_drop]
    have := h.2.1; have := h.2.2; omega
  · show (r.cells.take c.toNat ++ r.cells.drop (c + 1).toNat).length ≤ _
    rw [List.length_append, List.length_take, List.length_drop]
    have := h.2.2
    by_cases hc : 0 ≤ c
    · omega
    · rw [show c.toNat = 0 by omega]; omega
theorem leftTo_ok {rs : List RowD} (hr : TabOk rs) (row cell : Int) : ∀ n, n ≤ rs.length → TabOk (leftTo rs row cell n)
  | 0, _ => ⟨fun r h => (by cases h), by show (0 : Nat) ≤ 1000000; omega⟩
  | n + 1, hn => by
    have h1 := leftTo_ok hr row cell n (by omega)
    have h2 := leftTo_len rs row cell (n + 1)
    have h3 := hr.2
    refine ⟨fun r hx => ?_, by omega⟩
    rcases List.mem_append.1 hx with hx | hx
    · exact h1.1 r hx
    · have hm := hr.1 _ (rAt_mem rs (n : Int) (by omega) (by omega))
      unfold rowX at hx
      split at hx
      · rename_i he
        split at hx
        · rw [List.mem_singleton.1 hx, ← he]; exact dropC_ok hm _
        · cases hx
      · rw [List.mem_singleton.1 hx]; exact hm
theorem encRs_app (a b : List RowD) : encRs (a ++ b) = encRs a ++ encRs b := by simp [encRs]
theorem encRs_each (l : List RowD) : ∀ x ∈ encRs l, x.length = 6 := by
  intro x hx
  obtain ⟨s, _, rfl⟩ := List.mem_map.1 hx
  rfl
theorem encCs_each (l : List CellD) : ∀ x ∈ encCs l, x.length = 7 := by
  intro x hx
  obtain ⟨s, _, rfl⟩ := List.mem_map.1 hx
  rfl
theorem dropC_cells (r : RowD) (c : Int) (n : Nat) (h : n = (encCs r.cells).length) : (encCs r.cells).take c.toNat ++ ((encCs r.cells).take n).drop (c + 1).toNat = encCs (dropC r c).cells := by
  subst h
  rw [List.take_length]
  simp [encCs, dropC]
theorem place_in {rs : List RowD} {i k : Int} (h : existsN rs i k) (hne : (spN rs i k).1 ≠ (spN rs i k).2) : placeE rs i k = 0 ∧ (placeR rs i k).left = (spN rs i k).1 ∧ (placeR rs i k).right = (spN rs i k).2 ∧ (placeR rs i k).top ≤ i ∧ i < (placeR rs i k).bottom := by
  obtain ⟨h0, h1, _, _⟩ := id h
  have e1 : placeR rs i k = rectN rs i k := by unfold placeR; rw [if_pos ⟨h, hne⟩]
  have e2 : placeE rs i k = 0 := by unfold placeE; rw [if_neg (fun e => e h), if_neg hne]
  have h2 := (topN_spec rs (spN rs i k) i.toNat (by omega)).1
  have h3 := (botN_spec rs (spN rs i k) (rs.length - (i.toNat + 1)) (i.toNat + 1) (by omega)).1
  rw [e1, e2]
  refine ⟨rfl, rfl, rfl, ?_, ?_⟩
  · show ((topN rs (spN rs i k) i.toNat : Nat) : Int) ≤ i; omega
  · show i < ((botN rs (spN rs i k) (i.toNat + 1) (rs.length - (i.toNat + 1)) : Nat) : Int); omega
theorem place_out {rs : List RowD} {i k : Int} (h : existsN rs i k) (hne : (spN rs i k).1 = (spN rs i k).2) : placeE rs i k = 20 := by
  unfold placeE; rw [if_neg (fun e => e h), if_pos hne]
set_option maxHeartbeats 1000000 in
set_option maxRecDepth 100000 in
theorem GridRemoves_spec (rs : List RowD) (row cell : Int) : Fun Try.prog 7 [.sl 6 (encRs rs), .v (.int .i64 row), .v (.int .i64 cell)] (.v (.bool true)) := by
  refine Fun.enter (n := 163) (rs := [.tmp 6]) Try.func7 rfl Try.ntmps7 Try.results7 rfl (fun w F => ?_)
  have hk := encRs_len rs
  refine TC.seq ?_
  refine TC.region ?_
  refine TL.run1 (pure_assign rfl) rfl ?_
  refine TL.nil' ?_
  refine TC.seq ?_
  refine TC.regionCut [16, 17, 18, 19, 20, 21, 22, 23, 24, 25, 26, 27, 28, 29, 30, 31, 32] 32 (smallB rs = false ∨ row < 0 ∨ (rs.length : Int) ≤ row) ?_ ?_
  · skip
    refine TL.run1 (pure_call (known_spec) .nil Try.call12) rfl ?_
    refine TL.run1 (pure_not rfl) rfl ?_
    refine TL.run1 (pure_move rfl) rfl ?_
    first | refine TL.splitP 18 rfl (fun hg18 => ?_) (fun hg18 => ?_) | refine TL.split 18 rfl (fun hg18 => ?_) (fun hg18 => ?_)
    · try dsimp only at hg18
      refine TL.passG rfl rfl rfl rfl ?_
      refine TL.passG rfl rfl rfl rfl ?_
      refine TL.passG rfl rfl rfl rfl ?_
      refine TL.run1 (pure_pick_true rfl rfl) rfl ?_
      refine TL.run1 (pure_move rfl) rfl ?_
      refine TL.passG rfl rfl rfl rfl ?_
      refine TL.passG rfl rfl rfl rfl ?_
      refine TL.run1 (pure_pick_true rfl rfl) rfl ?_
      refine TL.run1 (pure_move rfl) rfl ?_
      refine TL.passG rfl rfl rfl rfl ?_
      refine TL.passG rfl rfl rfl rfl ?_
      refine TL.passG rfl rfl rfl rfl ?_
      refine TL.passG rfl rfl rfl rfl ?_
      refine TL.run1 (pure_pick_true rfl rfl) rfl ?_
      refine TL.cutEnd (by repeat (first | exact Same.refl _ _ | refine Same.put rfl ?_)) rfl ?_
      first | (simp only [decide_eq_true_eq, Bool.false_eq_true, false_iff, true_iff, iff_true, iff_false, Bool.not_eq_true]; omega) | (simp_all; done) | (simp_all; omega) | grind
    · try dsimp only at hg18
      refine TL.runG rfl rfl (pure_move rfl) rfl ?_
      refine TL.runG rfl rfl (pure_call (Small_spec _) (.cons rfl .nil) Try.call13) rfl ?_
      refine TL.runG rfl rfl (pure_not rfl) rfl ?_
      refine TL.run1 (pure_pick_false rfl rfl) rfl ?_
      refine TL.run1 (pure_move rfl) rfl ?_
      first | refine TL.splitP 23 rfl (fun hg23 => ?_) (fun hg23 => ?_) | refine TL.split 23 rfl (fun hg23 => ?_) (fun hg23 => ?_)
      · try dsimp only at hg23
        refine TL.passG rfl rfl rfl rfl ?_
        refine TL.passG rfl rfl rfl rfl ?_
        refine TL.run1 (pure_pick_true rfl rfl) rfl ?_
        refine TL.run1 (pure_move rfl) rfl ?_
        refine TL.passG rfl rfl rfl rfl ?_
        refine TL.passG rfl rfl rfl rfl ?_
        refine TL.passG rfl rfl rfl rfl ?_
        refine TL.passG rfl rfl rfl rfl ?_
        refine TL.run1 (pure_pick_true rfl rfl) rfl ?_
        refine TL.cutEnd (by repeat (first | exact Same.refl _ _ | refine Same.put rfl ?_)) rfl ?_
        first | (simp only [decide_eq_true_eq, Bool.false_eq_true, false_iff, true_iff, iff_true, iff_false, Bool.not_eq_true]; omega) | (simp_all; done) | (simp_all; omega) | grind
      · try dsimp only at hg23
        refine TL.runG rfl rfl (pure_move rfl) rfl ?_
        refine TL.runG rfl rfl (pure_lss rfl rfl) rfl ?_
        refine TL.run1 (pure_pick_false rfl rfl) rfl ?_
        refine TL.run1 (pure_move rfl) rfl ?_
        first | refine TL.splitP 27 rfl (fun hg27 => ?_) (fun hg27 => ?_) | refine TL.split 27 rfl (fun hg27 => ?_) (fun hg27 => ?_)
        · try dsimp only at hg27
          refine TL.passG rfl rfl rfl rfl ?_
          refine TL.passG rfl rfl rfl rfl ?_
          refine TL.passG rfl rfl rfl rfl ?_
          refine TL.passG rfl rfl rfl rfl ?_
          refine TL.run1 (pure_pick_true rfl rfl) rfl ?_
          refine TL.cutEnd (by repeat (first | exact Same.refl _ _ | refine Same.put rfl ?_)) rfl ?_
          first | (simp only [decide_eq_true_eq, Bool.false_eq_true, false_iff, true_iff, iff_true, iff_false, Bool.not_eq_true]; omega) | (simp_all; done) | (simp_all; omega) | grind
        · try dsimp only at hg27
          refine TL.runG rfl rfl (pure_move rfl) rfl ?_
          refine TL.runG rfl rfl (pure_move rfl) rfl ?_
          first | refine TL.runG rfl rfl (pure_len Ty.sl22 rfl) rfl ?_ | refine TL.runG rfl rfl (pure_len_row Ty.sl22 rfl (by repeat (first | exact List.Mem.head _ | apply List.Mem.tail))) rfl ?_ | refine TL.runG rfl rfl (pure_len_nil Ty.sl22 rfl) rfl ?_
          refine TL.runG rfl rfl (pure_geq rfl rfl) rfl ?_
          refine TL.run1 (pure_pick_false rfl rfl) rfl ?_
          refine TL.cutEnd (by repeat (first | exact Same.refl _ _ | refine Same.put rfl ?_)) rfl ?_
          first | (simp only [decide_eq_true_eq, Bool.false_eq_true, false_iff, true_iff, iff_true, iff_false, Bool.not_eq_true]; omega) | (simp_all; done) | (simp_all; omega) | grind
  first | refine TC.condD rfl (fun hc32 => ?_) (fun hc32 => ?_) | refine TC.condN rfl (fun hc32 => ?_) (fun hc32 => ?_) | refine TC.cond rfl (fun hc32 => ?_) (fun hc32 => ?_)
  · try dsimp only at hc32
    refine TC.seq ?_
    refine TC.region ?_
    refine TL.run1 (pure_call (known_spec) .nil Try.call12) rfl ?_
    refine TL.run1 (pure_assign rfl) rfl ?_
    refine TL.nil' ?_
    refine TC.ret ?_
    refine then_ret ?_
    exact ret_bool rfl rfl
  · try dsimp only at hc32
    have hb : ¬ smallB rs = false := fun e => hc32 (.inl e)
    have hsm : SmallT rs := (smallB_iff rs).1 (by simpa using hb)
    have hr := hsm.ok
    have hl : rs.length ≤ 2000 := by have := hsm.1; omega
    have hql : (layRects rs).length ≤ 2000 * rs.length := (lay_ok (fun r hh => (hr.1 r hh).2.2) rs.length (Nat.le_refl _)).len
    have hrow0 : 0 ≤ row := by omega
    have hrow1 : row < rs.length := by omega
    refine TC.skip' ?_
    refine TC.seq ?_
    refine TC.region ?_
    refine TL.run1 (pure_assign rfl) rfl ?_
    refine TL.nil' ?_
    refine TC.seq ?_
    refine TC.seq ?_
    refine TC.nilrow 36 6 ?_
    refine TC.region ?_
    refine TL.run1 (pure_assign rfl) rfl ?_
    refine TL.nil' ?_
    refine TC.block ?_
    refine TC.loopX (X := Int × Value) (fun (i, v) => [(0, .sl 6 (encRs rs)), (1, .v (.int .i64 row)), (2, .v (.int .i64 cell)), (7, .v v), (8, .v (.int .i64 i))]) (fun (i, v) => [.row v 36 6 (encRs (leftTo rs row cell i.toNat))]) (fun (i, v) => (0 ≤ i) ∧ (i ≤ rs.length)) (fun (i, v) => (rs.length - i).toNat) (0, .slice none 0 0) ⟨by skip; repeat (first | exact Agree.nil | refine Agree.cons rfl ?_), by skip; repeat (first | exact List.nil_sublist _ | exact List.Sublist.refl _ | apply List.Sublist.cons_cons | apply List.Sublist.cons)⟩ ?_ ?_
    · skip
      exact ⟨by (try dsimp only); omega, by (try dsimp only); omega⟩
    rintro ⟨i, v⟩
    rintro ⟨h0, h1⟩
    show TC _ _ _ (Env.of [(0, .sl 6 (encRs rs)), (1, .v (.int .i64 row)), (2, .v (.int .i64 cell)), (7, .v v), (8, .v (.int .i64 i))]) [.row v 36 6 (encRs (leftTo rs row cell i.toNat))]
    (try dsimp only at h0 h1)
    refine TC.seq ?_
    refine TC.seq ?_
    refine TC.region ?_
    refine TL.run1 (pure_move rfl) rfl ?_
    refine TL.run1 (pure_move rfl) rfl ?_
    first | refine TL.run1 (pure_len Ty.sl22 rfl) rfl ?_ | refine TL.run1 (pure_len_row Ty.sl22 rfl (by repeat (first | exact List.Mem.head _ | apply List.Mem.tail))) rfl ?_ | refine TL.run1 (pure_len_nil Ty.sl22 rfl) rfl ?_
    refine TL.run1 (pure_lss rfl rfl) rfl ?_
    refine TL.nil' ?_
    first | refine TC.condD rfl (fun hc37 => ?_) (fun hc37 => ?_) | refine TC.condN rfl (fun hc37 => ?_) (fun hc37 => ?_) | refine TC.cond rfl (fun hc37 => ?_) (fun hc37 => ?_)
    · try dsimp only at hc37
      refine TC.skip' ?_
      refine TC.seq ?_
      refine TC.block ?_
      refine TC.seq ?_
      have hrow := encRs_get rs i (by omega) (by omega)
      have hro := hr.1 _ (rAt_mem rs i (by omega) (by omega))
      have hrl := hro.2.2
      have hck := encCs_len (rAt rs i).cells
      have hll := leftTo_len rs row cell i.toNat
      have hlk := encRs_len (leftTo rs row cell i.toNat)
      have hin : (i.toNat : Int) = i := by omega
      refine TC.region ?_
      refine TL.run1 (pure_move rfl) rfl ?_
      refine TL.run1 (pure_move rfl) rfl ?_
      refine TL.run1 (pure_indexAddr Ty.sl22 rfl rfl (by omega) hrow (by simp [encR])) rfl ?_
      first | refine TL.run1 (pure_load Ty.agg36 rfl (.succ (.succ (.succ (.succ (.succ (.succ (.zero _)))))))) rfl ?_ | refine TL.run1 (pure_load_own Ty.agg36 rfl (by repeat (first | exact List.Mem.head _ | apply List.Mem.tail)) (by repeat (first | exact DropR.zero _ | apply DropR.succ)) (.succ (.succ (.succ (.succ (.succ (.succ (.zero _)))))))) rfl ?_
      refine TL.alloc Ty.zero36 rfl (fun g9 => ?_)
      refine TL.store rfl rfl (.agg _) Try.sizeOf36 rfl (by repeat (first | exact UpdR.here _ | apply UpdR.there)) (by repeat (first | exact PutR.nil _ | apply PutR.here | apply PutR.skip)) ?_
      refine TL.nil' ?_
      refine TC.seq ?_
      refine TC.regionCut [44, 45, 46, 47, 48, 49, 50, 51, 52, 53] 53 (i = row ∧ ¬ existsN rs row cell) ?_ ?_
      · skip
        refine TL.run1 (pure_move rfl) rfl ?_
        refine TL.run1 (pure_move rfl) rfl ?_
        refine TL.run1 (pure_eql rfl rfl) rfl ?_
        refine TL.run1 (pure_move rfl) rfl ?_
        first | refine TL.splitP 47 rfl (fun hg47 => ?_) (fun hg47 => ?_) | refine TL.split 47 rfl (fun hg47 => ?_) (fun hg47 => ?_)
        · try dsimp only at hg47
          refine TL.runG rfl rfl (pure_move rfl) rfl ?_
          refine TL.runG rfl rfl (pure_move rfl) rfl ?_
          refine TL.runG rfl rfl (pure_move rfl) rfl ?_
          refine TL.runG rfl rfl (pure_call (exists_spec rs row cell) (.cons rfl (.cons rfl (.cons rfl .nil))) Try.call25) rfl ?_
          refine TL.runG rfl rfl (pure_not rfl) rfl ?_
          refine TL.run1 (pure_pick_true rfl rfl) rfl ?_
          refine TL.cutEnd (by repeat (first | exact Same.refl _ _ | refine Same.put rfl ?_)) rfl ?_
          first | (unfold existsN; simp_all; done) | (unfold existsN; simp_all; omega) | (unfold existsN; grind)
        · try dsimp only at hg47
          refine TL.passG rfl rfl rfl rfl ?_
          refine TL.passG rfl rfl rfl rfl ?_
          refine TL.passG rfl rfl rfl rfl ?_
          refine TL.passG rfl rfl rfl rfl ?_
          refine TL.passG rfl rfl rfl rfl ?_
          refine TL.run1 (pure_pick_false rfl rfl) rfl ?_
          refine TL.cutEnd (by repeat (first | exact Same.refl _ _ | refine Same.put rfl ?_)) rfl ?_
          first | (unfold existsN; simp_all; done) | (unfold existsN; simp_all; omega) | (unfold existsN; grind)
      first | refine TC.condD rfl (fun hc53 => ?_) (fun hc53 => ?_) | refine TC.condN rfl (fun hc53 => ?_) (fun hc53 => ?_) | refine TC.cond rfl (fun hc53 => ?_) (fun hc53 => ?_)
      · try dsimp only at hc53
        have hir : (i.toNat : Int) = row := by omega
        refine TC.exit ?_
        refine then_exit ?_
        refine block_here ?_
        refine then_normal ?_
        refine TC.region ?_
        refine TL.run1 (pure_move rfl) rfl ?_
        refine TL.run1 (pure_add rfl rfl (mkI64 (by omega) (by omega))) rfl ?_
        refine TL.run1 (pure_assign rfl) rfl ?_
        refine TL.nil ?_
        have hrx : rowX rs row cell i.toNat = [] := by unfold rowX; rw [if_pos hir, if_neg hc53.2]
        have hst : encRs (leftTo rs row cell (i + 1).toNat) = encRs (leftTo rs row cell i.toNat) ++ [] := by rw [show (i + 1).toNat = i.toNat + 1 by omega, leftTo, hrx, encRs_app]; rfl
        rw [List.append_nil] at hst
        refine loop_next (i + 1, v) ⟨by ((try dsimp only); repeat (first | exact Agree.nil | refine Agree.cons rfl ?_)), by (try dsimp only); rw [hst]; repeat (first | exact List.nil_sublist _ | exact List.Sublist.refl _ | apply List.Sublist.cons_cons | apply List.Sublist.cons)⟩ ⟨by omega, by omega⟩ (by (try dsimp only); omega)
      · try dsimp only at hc53
        refine TC.skip' ?_
        refine TC.seq ?_
        refine TC.seq ?_
        refine TC.region ?_
        refine TL.run1 (pure_move rfl) rfl ?_
        refine TL.run1 (pure_move rfl) rfl ?_
        refine TL.run1 (pure_eql rfl rfl) rfl ?_
        refine TL.nil' ?_
        first | refine TC.condD rfl (fun hc56 => ?_) (fun hc56 => ?_) | refine TC.condN rfl (fun hc56 => ?_) (fun hc56 => ?_) | refine TC.cond rfl (fun hc56 => ?_) (fun hc56 => ?_)
        · try dsimp only at hc56
          have hex : existsN rs row cell := Classical.byContradiction fun h => hc53 ⟨hc56, h⟩
          have hir : (i.toNat : Int) = row := by omega
          have hc56s : rAt rs row = rAt rs i := by rw [hc56]
          obtain ⟨e0, e1, e2, e3⟩ := id hex
          rw [hc56s] at e3
          refine TC.drawSp 13 [0, 5, 11] [Blk.box g9 36 (encR (rAt rs i))] Ty.follows (by decide) (by kernel_rfl) (by kernel_rfl) (by kernel_rfl) ?_
          refine TD.mute ?_
          first | refine TD.run1 (pure_fieldAddr Ty.f36_1 rfl (.succ (.succ (.succ (.succ (.succ (.zero _)))))) (List.cons_ne_nil _ _)) rfl ?_ | refine TD.run1 (pure_fieldAddr_own Ty.f36_1 rfl) rfl ?_
          first | refine TD.run1 (pure_load1 Ty.one34 rfl) rfl ?_ | refine TD.run1 (pure_load1_own Ty.one34 rfl (by repeat (first | exact List.Mem.head _ | apply List.Mem.tail)) (by repeat (first | exact DropR.zero _ | apply DropR.succ))) rfl ?_
          refine TD.run1 (pure_move rfl) rfl ?_
          refine TD.run1 (pure_slice (l := 0) (h := cell.toNat) Ty.sl34 rfl rfl (by rw [show ((cell.toNat : Nat) : Int) = cell by omega]; rfl) (by omega) (by omega)) rfl ?_
          refine TD.mute ?_
          first | refine TD.run1 (pure_fieldAddr Ty.f36_1 rfl (.succ (.succ (.succ (.succ (.succ (.zero _)))))) (List.cons_ne_nil _ _)) rfl ?_ | refine TD.run1 (pure_fieldAddr_own Ty.f36_1 rfl) rfl ?_
          first | refine TD.run1 (pure_load1 Ty.one34 rfl) rfl ?_ | refine TD.run1 (pure_load1_own Ty.one34 rfl (by repeat (first | exact List.Mem.head _ | apply List.Mem.tail)) (by repeat (first | exact DropR.zero _ | apply DropR.succ))) rfl ?_
          refine TD.run1 (pure_move rfl) rfl ?_
          refine TD.run1 (pure_add rfl rfl (mkI64 (by omega) (by omega))) rfl ?_
          refine TD.run1 (pure_slice (l := (cell + 1).toNat) (h := (encCs (rAt rs i).cells).length) Ty.sl34 rfl (by rw [show (((cell + 1).toNat : Nat) : Int) = cell + 1 by omega]; rfl) rfl (by omega) (by omega)) rfl ?_
          refine TD.mute ?_
          first | refine TD.run1 (pure_fieldAddr Ty.f36_1 rfl (.succ (.succ (.succ (.succ (.succ (.zero _)))))) (List.cons_ne_nil _ _)) rfl ?_ | refine TD.run1 (pure_fieldAddr_own Ty.f36_1 rfl) rfl ?_
          refine TD.nil ?_
          refine ⟨⟨_, .left (.right .nil)⟩, fun s hs hb => ?_⟩
          simp only [List.mem_cons, List.not_mem_nil, or_false] at hs
          rcases hs with rfl | hs
          rotate_left
          · rcases hs with rfl | rfl
            · exact absurd (hb 0 (by simp)) (by decide +kernel)
            · exact absurd (hb 5 (by simp)) (by decide +kernel)
          refine ⟨_, rfl, rfl, fun E eF he hx0 => ?_⟩
          subst he
          refine TL.buildRow (xs := []) (ys := []) Ty.app34 (by decide) rfl rfl .nil rfl (fun v57 hv57 => ?_)
          refine TL.nil ⟨rfl, _, rfl, ?_⟩
          refine ⟨⟨_, .right (.left (.right .nil))⟩, fun s hs hb => ?_⟩
          rw [show ([0, 5, 11] : List Nat).erase 0 = [5, 11] from rfl] at *
          simp only [List.mem_cons, List.not_mem_nil, or_false] at hs
          rcases hs with rfl | hs
          rotate_left
          · subst hs; exact absurd (hb 5 (by simp)) (by decide +kernel)
          refine ⟨_, rfl, rfl, fun E eF he hx0 => ?_⟩
          subst he
          refine TL.append Ty.app34 ((hx0 (.tmp 57) (by simp [Op.operands, Call.operands])).trans rfl) ((hx0 (.tmp 61) (by simp [Op.operands, Call.operands])).trans rfl) (by intro _; repeat (first | exact UpdR.here _ | apply UpdR.there)) (by simp only [List.length_append, List.length_nil, List.length_take, List.length_drop]; omega) (by simp only [List.length_append, List.length_nil, List.length_take, List.length_drop]; omega) rfl (fun v62 hv62 => ?_)
          refine TL.nil ⟨rfl, _, rfl, ?_⟩
          refine ⟨⟨_, .right (.left (.right .nil))⟩, fun s hs hb => ?_⟩
          rw [show ([5, 11] : List Nat).erase 5 = [11] from rfl] at *
          simp only [List.mem_cons, List.not_mem_nil, or_false] at hs
          subst hs
          refine ⟨_, rfl, rfl, fun E eF he hx0 => ?_⟩
          subst he
          refine TL.append Ty.app34 ((hx0 (.tmp 62) (by simp [Op.operands, Call.operands])).trans rfl) ((hx0 (.tmp 67) (by simp [Op.operands, Call.operands])).trans rfl) (by intro _; repeat (first | exact UpdR.here _ | apply UpdR.there)) (by simp only [List.length_append, List.length_nil, List.length_take, List.length_drop]; omega) (by simp only [List.length_append, List.length_nil, List.length_take, List.length_drop]; omega) rfl (fun v68 hv68 => ?_)
          refine TL.nil ⟨rfl, _, rfl, ?_⟩
          refine ⟨⟨_, .right (.left (.right .nil))⟩, fun e he => ?_⟩
          subst he
          simp only [List.drop_succ_cons, List.drop_zero]
          simp only [List.nil_append, List.drop_zero]
          rw [dropC_cells (rAt rs i) cell _ rfl]
          refine TL.freeze 68 (show (0 : Nat) < 7 by decide) (.here _) rfl ?_
          refine TL.store rfl rfl (.one (by first | rfl | assumption)) Try.sizeOf34 rfl (by repeat (first | exact UpdR.here _ | apply UpdR.there)) (by repeat (first | exact PutR.nil _ | apply PutR.here | apply PutR.skip)) ?_
          refine TL.nil' ?_
          refine TC.region ?_
          refine TL.run1 (pure_move rfl) rfl ?_
          first | refine TL.run1 (pure_load Ty.agg36 rfl (.succ (.succ (.succ (.succ (.succ (.succ (.zero _)))))))) rfl ?_ | refine TL.run1 (pure_load_own Ty.agg36 rfl (by repeat (first | exact List.Mem.head _ | apply List.Mem.tail)) (by repeat (first | exact DropR.zero _ | apply DropR.succ)) (.succ (.succ (.succ (.succ (.succ (.succ (.zero _)))))))) rfl ?_
          refine TL.run1 (pure_buildSlice (xs := [.tmp 71]) Ty.app22 (by decide) rfl rfl (.cons rfl (.agg _) rfl .nil)) rfl ?_
          refine TL.append Ty.app22 rfl rfl (by intro _; repeat (first | exact UpdR.here _ | apply UpdR.there)) (by simp only [List.length_append, List.length_cons, List.length_nil]; omega) (by simp only [List.length_append, List.length_cons, List.length_nil]; omega) rfl (fun v73 hv73 => ?_)
          refine TL.run1 (pure_assign rfl) rfl ?_
          refine TL.nil ?_
          refine block_normal ?_
          refine then_normal ?_
          refine TC.region ?_
          refine TL.run1 (pure_move rfl) rfl ?_
          refine TL.run1 (pure_add rfl rfl (mkI64 (by omega) (by omega))) rfl ?_
          refine TL.run1 (pure_assign rfl) rfl ?_
          refine TL.nil ?_
          have hrx : rowX rs row cell i.toNat = [dropC (rAt rs i) cell] := by unfold rowX; rw [if_pos hir, if_pos hex, hc56s]
          have hst : encRs (leftTo rs row cell (i + 1).toNat) = encRs (leftTo rs row cell i.toNat) ++ [encR (dropC (rAt rs i) cell)] := by rw [show (i + 1).toNat = i.toNat + 1 by omega, leftTo, hrx, encRs_app]; rfl
          refine loop_next (i + 1, v73) ⟨by ((try dsimp only); repeat (first | exact Agree.nil | refine Agree.cons rfl ?_)), by (try dsimp only); rw [hst]; repeat (first | exact List.nil_sublist _ | exact List.Sublist.refl _ | apply List.Sublist.cons_cons | apply List.Sublist.cons)⟩ ⟨by omega, by omega⟩ (by (try dsimp only); omega)
        · try dsimp only at hc56
          have hir : ¬ (i.toNat : Int) = row := by omega
          refine TC.skip' ?_
          refine TC.region ?_
          refine TL.run1 (pure_move rfl) rfl ?_
          first | refine TL.run1 (pure_load Ty.agg36 rfl (.succ (.succ (.succ (.succ (.succ (.succ (.zero _)))))))) rfl ?_ | refine TL.run1 (pure_load_own Ty.agg36 rfl (by repeat (first | exact List.Mem.head _ | apply List.Mem.tail)) (by repeat (first | exact DropR.zero _ | apply DropR.succ)) (.succ (.succ (.succ (.succ (.succ (.succ (.zero _)))))))) rfl ?_
          refine TL.run1 (pure_buildSlice (xs := [.tmp 71]) Ty.app22 (by decide) rfl rfl (.cons rfl (.agg _) rfl .nil)) rfl ?_
          refine TL.append Ty.app22 rfl rfl (by intro _; repeat (first | exact UpdR.here _ | apply UpdR.there)) (by simp only [List.length_append, List.length_cons, List.length_nil]; omega) (by simp only [List.length_append, List.length_cons, List.length_nil]; omega) rfl (fun v73 hv73 => ?_)
          refine TL.run1 (pure_assign rfl) rfl ?_
          refine TL.nil ?_
          refine block_normal ?_
          refine then_normal ?_
          refine TC.region ?_
          refine TL.run1 (pure_move rfl) rfl ?_
          refine TL.run1 (pure_add rfl rfl (mkI64 (by omega) (by omega))) rfl ?_
          refine TL.run1 (pure_assign rfl) rfl ?_
          refine TL.nil ?_
          have hrx : rowX rs row cell i.toNat = [(rAt rs i)] := by unfold rowX; rw [if_neg hir, hin]
          have hst : encRs (leftTo rs row cell (i + 1).toNat) = encRs (leftTo rs row cell i.toNat) ++ [encR (rAt rs i)] := by rw [show (i + 1).toNat = i.toNat + 1 by omega, leftTo, hrx, encRs_app]; rfl
          refine loop_next (i + 1, v73) ⟨by ((try dsimp only); repeat (first | exact Agree.nil | refine Agree.cons rfl ?_)), by (try dsimp only); rw [hst]; repeat (first | exact List.nil_sublist _ | exact List.Sublist.refl _ | apply List.Sublist.cons_cons | apply List.Sublist.cons)⟩ ⟨by omega, by omega⟩ (by (try dsimp only); omega)
    · try dsimp only at hc37
      refine TC.exit ?_
      refine then_exit ?_
      refine loop_exit ?_
      refine block_here ?_
      refine then_normal ?_
      refine TC.seq ?_
      refine TC.seq ?_
      have hit : i.toNat = rs.length := by omega
      rw [hit]
      have hlt := leftTo_ok hr row cell rs.length (Nat.le_refl _)
      have hll := leftTo_len rs row cell rs.length
      have hkl := encRs_len (leftTo rs row cell rs.length)
      refine TC.frz 7 [] (List.nil_sublist _) rfl (.rowS (gone_nil (by repeat (first | exact List.Mem.head _ | apply List.Mem.tail))) (by decide) (encRs_each _)) ?_
      refine TC.region ?_
      refine TL.run1 (pure_assign rfl) rfl ?_
      refine TL.nil' ?_
      refine TC.block ?_
      refine TC.loopX (X := Int) (fun i => [(7, .sl 6 (encRs (leftTo rs row cell rs.length))), (10, .v (.int .i64 i))]) (fun i => []) (fun i => (0 ≤ i) ∧ (i ≤ (leftTo rs row cell rs.length).length)) (fun i => ((leftTo rs row cell rs.length).length - i).toNat) (0) ⟨by skip; repeat (first | exact Agree.nil | refine Agree.cons rfl ?_), by skip; repeat (first | exact List.nil_sublist _ | exact List.Sublist.refl _ | apply List.Sublist.cons_cons | apply List.Sublist.cons)⟩ ?_ ?_
      · skip
        exact ⟨by omega, by omega⟩
      intro i
      rintro ⟨h0, h1⟩
      show TC _ _ _ (Env.of [(7, .sl 6 (encRs (leftTo rs row cell rs.length))), (10, .v (.int .i64 i))]) []
      refine TC.seq ?_
      refine TC.seq ?_
      refine TC.region ?_
      refine TL.run1 (pure_move rfl) rfl ?_
      refine TL.run1 (pure_move rfl) rfl ?_
      first | refine TL.run1 (pure_len Ty.sl22 rfl) rfl ?_ | refine TL.run1 (pure_len_row Ty.sl22 rfl (by repeat (first | exact List.Mem.head _ | apply List.Mem.tail))) rfl ?_ | refine TL.run1 (pure_len_nil Ty.sl22 rfl) rfl ?_
      refine TL.run1 (pure_lss rfl rfl) rfl ?_
      refine TL.nil' ?_
      first | refine TC.condD rfl (fun hc77 => ?_) (fun hc77 => ?_) | refine TC.condN rfl (fun hc77 => ?_) (fun hc77 => ?_) | refine TC.cond rfl (fun hc77 => ?_) (fun hc77 => ?_)
      · try dsimp only at hc77
        refine TC.skip' ?_
        refine TC.seq ?_
        refine TC.block ?_
        refine TC.seq ?_
        have hrow := encRs_get (leftTo rs row cell rs.length) i (by omega) (by omega)
        have hsl : (spansR (rAt (leftTo rs row cell rs.length) i)).length = (rAt (leftTo rs row cell rs.length) i).cells.length := spansFrom_len _ _
        have hsk := encS_len (spansR (rAt (leftTo rs row cell rs.length) i))
        have hck := encCs_len (rAt (leftTo rs row cell rs.length) i).cells
        have hrl := (hlt.1 _ (rAt_mem (leftTo rs row cell rs.length) i (by omega) (by omega))).2.2
        refine TC.region ?_
        refine TL.run1 (pure_move rfl) rfl ?_
        refine TL.run1 (pure_move rfl) rfl ?_
        refine TL.run1 (pure_call (Spans_spec (leftTo rs row cell rs.length) hlt i) (.cons rfl (.cons rfl .nil)) Try.call16) rfl ?_
        refine TL.run1 (pure_move rfl) rfl ?_
        refine TL.run1 (pure_extract rfl rfl) rfl ?_
        refine TL.run1 (pure_extract rfl rfl) rfl ?_
        refine TL.run1 (pure_assign rfl) rfl ?_
        refine TL.run1 (pure_assign rfl) rfl ?_
        refine TL.nil' ?_
        refine TC.seq ?_
        rw [if_pos ⟨h0, by omega⟩, if_pos ⟨h0, by omega⟩]
        refine TC.regionCut [86, 87, 88, 89, 90, 91, 92, 93, 94, 95, 96, 97, 98] 98 (False) ?_ ?_
        · skip
          refine TL.run1 (pure_move rfl) rfl ?_
          refine TL.run1 (pure_neq rfl rfl) rfl ?_
          refine TL.run1 (pure_move rfl) rfl ?_
          first | refine TL.splitP 88 rfl (fun hg88 => ?_) (fun hg88 => ?_) | refine TL.split 88 rfl (fun hg88 => ?_) (fun hg88 => ?_)
          · try dsimp only at hg88
            refine TL.passG rfl rfl rfl rfl ?_
            refine TL.passG rfl rfl rfl rfl ?_
            refine TL.passG rfl rfl rfl rfl ?_
            refine TL.passG rfl rfl rfl rfl ?_
            refine TL.passG rfl rfl rfl rfl ?_
            refine TL.passG rfl rfl rfl rfl ?_
            refine TL.passG rfl rfl rfl rfl ?_
            refine TL.passG rfl rfl rfl rfl ?_
            refine TL.passG rfl rfl rfl rfl ?_
            refine TL.run1 (pure_pick_true rfl rfl) rfl ?_
            refine TL.cutEnd (by repeat (first | exact Same.refl _ _ | refine Same.put rfl ?_)) rfl ?_
            first | (simp_all; done) | (simp_all; omega)
          · try dsimp only at hg88
            refine TL.runG rfl rfl (pure_move rfl) rfl ?_
            first | refine TL.runG rfl rfl (pure_len Ty.sl44 rfl) rfl ?_ | refine TL.runG rfl rfl (pure_len_row Ty.sl44 rfl (by repeat (first | exact List.Mem.head _ | apply List.Mem.tail))) rfl ?_ | refine TL.runG rfl rfl (pure_len_nil Ty.sl44 rfl) rfl ?_
            refine TL.runG rfl rfl (pure_move rfl) rfl ?_
            refine TL.runG rfl rfl (pure_move rfl) rfl ?_
            refine TL.runG rfl rfl (pure_indexAddr Ty.sl22 rfl rfl (by omega) hrow (by simp [encR])) rfl ?_
            first | refine TL.runG rfl rfl (pure_fieldAddr Ty.f36_1 rfl (.succ (.succ (.succ (.succ (.succ (.zero _)))))) (List.cons_ne_nil _ _)) rfl ?_ | refine TL.runG rfl rfl (pure_fieldAddr_own Ty.f36_1 rfl) rfl ?_
            first | refine TL.runG rfl rfl (pure_load1 Ty.one34 rfl) rfl ?_ | refine TL.runG rfl rfl (pure_load1_own Ty.one34 rfl (by repeat (first | exact List.Mem.head _ | apply List.Mem.tail)) (by repeat (first | exact DropR.zero _ | apply DropR.succ))) rfl ?_
            first | refine TL.runG rfl rfl (pure_len Ty.sl34 rfl) rfl ?_ | refine TL.runG rfl rfl (pure_len_row Ty.sl34 rfl (by repeat (first | exact List.Mem.head _ | apply List.Mem.tail))) rfl ?_ | refine TL.runG rfl rfl (pure_len_nil Ty.sl34 rfl) rfl ?_
            refine TL.runG rfl rfl (pure_neq rfl rfl) rfl ?_
            refine TL.run1 (pure_pick_false rfl rfl) rfl ?_
            refine TL.cutEnd (by repeat (first | exact Same.refl _ _ | refine Same.put rfl ?_)) rfl ?_
            first | (simp_all; done) | (simp_all; omega)
        first | refine TC.condD rfl (fun hc98 => ?_) (fun hc98 => ?_) | refine TC.condN rfl (fun hc98 => ?_) (fun hc98 => ?_) | refine TC.cond rfl (fun hc98 => ?_) (fun hc98 => ?_)
        · try dsimp only at hc98
          all_goals exact absurd hc98 id
        · try dsimp only at hc98
          refine TC.skip' ?_
          refine TC.seq ?_
          refine TC.region ?_
          refine TL.run1 (pure_assign rfl) rfl ?_
          refine TL.nil' ?_
          refine TC.block ?_
          refine TC.loopX (X := Int) (fun k => [(7, .sl 6 (encRs (leftTo rs row cell rs.length))), (10, .v (.int .i64 i)), (11, .sl 2 (encS (spansR (rAt (leftTo rs row cell rs.length) i)))), (13, .v (.int .i64 k))]) (fun k => []) (fun k => (0 ≤ k) ∧ (k ≤ (spansR (rAt (leftTo rs row cell rs.length) i)).length)) (fun k => ((spansR (rAt (leftTo rs row cell rs.length) i)).length - k).toNat) (0) ⟨by skip; repeat (first | exact Agree.nil | refine Agree.cons rfl ?_), by skip; repeat (first | exact List.nil_sublist _ | exact List.Sublist.refl _ | apply List.Sublist.cons_cons | apply List.Sublist.cons)⟩ ?_ ?_
          · skip
            exact ⟨by omega, by omega⟩
          intro k
          rintro ⟨k0, k1⟩
          show TC _ _ _ (Env.of [(7, .sl 6 (encRs (leftTo rs row cell rs.length))), (10, .v (.int .i64 i)), (11, .sl 2 (encS (spansR (rAt (leftTo rs row cell rs.length) i)))), (13, .v (.int .i64 k))]) []
          refine TC.seq ?_
          refine TC.seq ?_
          refine TC.region ?_
          refine TL.run1 (pure_move rfl) rfl ?_
          refine TL.run1 (pure_move rfl) rfl ?_
          first | refine TL.run1 (pure_len Ty.sl44 rfl) rfl ?_ | refine TL.run1 (pure_len_row Ty.sl44 rfl (by repeat (first | exact List.Mem.head _ | apply List.Mem.tail))) rfl ?_ | refine TL.run1 (pure_len_nil Ty.sl44 rfl) rfl ?_
          refine TL.run1 (pure_lss rfl rfl) rfl ?_
          refine TL.nil' ?_
          first | refine TC.condD rfl (fun hc102 => ?_) (fun hc102 => ?_) | refine TC.condN rfl (fun hc102 => ?_) (fun hc102 => ?_) | refine TC.cond rfl (fun hc102 => ?_) (fun hc102 => ?_)
          · try dsimp only at hc102
            refine TC.skip' ?_
            refine TC.seq ?_
            refine TC.block ?_
            refine TC.seq ?_
            have hcell := encS_get (spansR (rAt (leftTo rs row cell rs.length) i)) k (by omega) (by omega)
            have hex : existsN (leftTo rs row cell rs.length) i k := ⟨h0, by omega, k0, by omega⟩
            refine TC.region ?_
            refine TL.run1 (pure_move rfl) rfl ?_
            refine TL.run1 (pure_move rfl) rfl ?_
            refine TL.run1 (pure_move rfl) rfl ?_
            refine TL.run1 (pure_call (GPlace_spec (leftTo rs row cell rs.length) hlt (by omega) i k) (.cons rfl (.cons rfl (.cons rfl .nil))) Try.call26) rfl ?_
            refine TL.run1 (pure_move rfl) rfl ?_
            refine TL.run1 (pure_extract rfl rfl) rfl ?_
            refine TL.run1 (pure_extract rfl rfl) rfl ?_
            refine TL.alloc Ty.zero40 rfl (fun g14 => ?_)
            refine TL.store rfl rfl (.agg _) Try.sizeOf40 rfl (by repeat (first | exact UpdR.here _ | apply UpdR.there)) (by repeat (first | exact PutR.nil _ | apply PutR.here | apply PutR.skip)) ?_
            refine TL.run1 (pure_assign rfl) rfl ?_
            refine TL.nil' ?_
            refine TC.seq ?_
            refine TC.seq ?_
            refine TC.draw Ty.follows (by kernel_rfl) ?_
            refine TD.run1 (pure_move rfl) rfl ?_
            refine TD.run1 (pure_move rfl) rfl ?_
            refine TD.run1 (pure_indexAddr Ty.sl44 rfl rfl (by omega) hcell (List.cons_ne_nil _ _)) rfl ?_
            first | refine TD.run1 (pure_fieldAddr Ty.f51_0 rfl (.zero _) (List.cons_ne_nil _ _)) rfl ?_ | refine TD.run1 (pure_fieldAddr_own Ty.f51_0 rfl) rfl ?_
            first | refine TD.run1 (pure_load1 Ty.one3 rfl) rfl ?_ | refine TD.run1 (pure_load1_own Ty.one3 rfl (by repeat (first | exact List.Mem.head _ | apply List.Mem.tail)) (by repeat (first | exact DropR.zero _ | apply DropR.succ))) rfl ?_
            refine TD.run1 (pure_move rfl) rfl ?_
            refine TD.run1 (pure_move rfl) rfl ?_
            refine TD.run1 (pure_indexAddr Ty.sl44 rfl rfl (by omega) hcell (List.cons_ne_nil _ _)) rfl ?_
            first | refine TD.run1 (pure_fieldAddr Ty.f51_1 rfl (.succ (.zero _)) (List.cons_ne_nil _ _)) rfl ?_ | refine TD.run1 (pure_fieldAddr_own Ty.f51_1 rfl) rfl ?_
            first | refine TD.run1 (pure_load1 Ty.one3 rfl) rfl ?_ | refine TD.run1 (pure_load1_own Ty.one3 rfl (by repeat (first | exact List.Mem.head _ | apply List.Mem.tail)) (by repeat (first | exact DropR.zero _ | apply DropR.succ))) rfl ?_
            refine TD.run1 (pure_eql rfl rfl) rfl ?_
            refine TD.nil' ?_
            first | refine TC.condD rfl (fun hc122 => ?_) (fun hc122 => ?_) | refine TC.condN rfl (fun hc122 => ?_) (fun hc122 => ?_) | refine TC.cond rfl (fun hc122 => ?_) (fun hc122 => ?_)
            · try dsimp only at hc122
              rw [place_out hex hc122]
              refine TC.seq ?_
              refine TC.seq ?_
              refine TC.region ?_
              refine TL.run1 (pure_move rfl) rfl ?_
              refine TL.run1 (pure_neq rfl rfl) rfl ?_
              refine TL.nil' ?_
              first | refine TC.condD rfl (fun hc124 => ?_) (fun hc124 => ?_) | refine TC.condN rfl (fun hc124 => ?_) (fun hc124 => ?_) | refine TC.cond rfl (fun hc124 => ?_) (fun hc124 => ?_)
              · try dsimp only at hc124
                exact absurd rfl hc124
              · try dsimp only at hc124
                refine TC.skip' ?_
                refine TC.exit ?_
                refine then_exit ?_
                refine block_here ?_
                refine then_normal ?_
                refine TC.region ?_
                refine TL.run1 (pure_move rfl) rfl ?_
                refine TL.run1 (pure_add rfl rfl (mkI64 (by omega) (by omega))) rfl ?_
                refine TL.run1 (pure_assign rfl) rfl ?_
                refine TL.nil ?_
                refine loop_next (k + 1) ⟨by repeat (first | exact Agree.nil | refine Agree.cons rfl ?_), by repeat (first | exact List.nil_sublist _ | exact List.Sublist.refl _ | apply List.Sublist.cons_cons | apply List.Sublist.cons)⟩ ⟨by omega, by omega⟩ (by omega)
            · try dsimp only at hc122
              obtain ⟨q1, q2, q3, q4, q5⟩ := place_in hex hc122
              have q2b : (placeR (leftTo rs row cell rs.length) i k).left = (sAt (spansR (rAt (leftTo rs row cell rs.length) i)) k).1 := q2
              have q3b : (placeR (leftTo rs row cell rs.length) i k).right = (sAt (spansR (rAt (leftTo rs row cell rs.length) i)) k).2 := q3
              refine TC.skip' ?_
              refine TC.drawCut [125, 126, 127, 128, 129, 130, 131, 132, 133, 134, 135, 136, 137, 138, 139, 140, 141, 142, 143, 144, 145, 146, 147, 148, 149, 150, 151, 152, 153, 154, 155, 156, 157, 158, 159, 160, 161, 162] 162 (False) Ty.follows (by kernel_rfl) ?_ ?_
              · skip
                refine TD.run1 (pure_move rfl) rfl ?_
                refine TD.run1 (pure_neq rfl rfl) rfl ?_
                refine TD.run1 (pure_move rfl) rfl ?_
                first | refine TD.splitP 127 rfl (fun hg127 => ?_) (fun hg127 => ?_) | refine TD.split 127 rfl (fun hg127 => ?_) (fun hg127 => ?_)
                · try dsimp only at hg127
                  refine TD.passG rfl rfl rfl rfl ?_
                  refine TD.passG rfl rfl rfl rfl ?_
                  refine TD.passG rfl rfl rfl rfl ?_
                  refine TD.passG rfl rfl rfl rfl ?_
                  refine TD.passG rfl rfl rfl rfl ?_
                  refine TD.passG rfl rfl rfl rfl ?_
                  refine TD.passG rfl rfl rfl rfl ?_
                  refine TD.passG rfl rfl rfl rfl ?_
                  refine TD.passG rfl rfl rfl rfl ?_
                  refine TD.run1 (pure_pick_true rfl rfl) rfl ?_
                  refine TD.run1 (pure_move rfl) rfl ?_
                  refine TD.passG rfl rfl rfl rfl ?_
                  refine TD.passG rfl rfl rfl rfl ?_
                  refine TD.passG rfl rfl rfl rfl ?_
                  refine TD.passG rfl rfl rfl rfl ?_
                  refine TD.passG rfl rfl rfl rfl ?_
                  refine TD.passG rfl rfl rfl rfl ?_
                  refine TD.passG rfl rfl rfl rfl ?_
                  refine TD.passG rfl rfl rfl rfl ?_
                  refine TD.passG rfl rfl rfl rfl ?_
                  refine TD.run1 (pure_pick_true rfl rfl) rfl ?_
                  refine TD.run1 (pure_move rfl) rfl ?_
                  refine TD.passG rfl rfl rfl rfl ?_
                  refine TD.passG rfl rfl rfl rfl ?_
                  refine TD.passG rfl rfl rfl rfl ?_
                  refine TD.passG rfl rfl rfl rfl ?_
                  refine TD.passG rfl rfl rfl rfl ?_
                  refine TD.run1 (pure_pick_true rfl rfl) rfl ?_
                  refine TD.run1 (pure_move rfl) rfl ?_
                  refine TD.passG rfl rfl rfl rfl ?_
                  refine TD.passG rfl rfl rfl rfl ?_
                  refine TD.passG rfl rfl rfl rfl ?_
                  refine TD.passG rfl rfl rfl rfl ?_
                  refine TD.passG rfl rfl rfl rfl ?_
                  refine TD.run1 (pure_pick_true rfl rfl) rfl ?_
                  refine TD.cutEnd (by repeat (first | exact Same.refl _ _ | refine Same.put rfl ?_)) rfl ?_
                  first | (simp_all; done) | (simp_all; omega) | omega
                · try dsimp only at hg127
                  first | refine TD.runG rfl rfl (pure_fieldAddr Ty.f40_2 rfl (.succ (.succ (.zero _))) (List.cons_ne_nil _ _)) rfl ?_ | refine TD.runG rfl rfl (pure_fieldAddr_own Ty.f40_2 rfl) rfl ?_
                  first | refine TD.runG rfl rfl (pure_fieldAddr Ty.f38_1 rfl (.succ (.zero _)) (List.cons_ne_nil _ _)) rfl ?_ | refine TD.runG rfl rfl (pure_fieldAddr_own Ty.f38_1 rfl) rfl ?_
                  first | refine TD.runG rfl rfl (pure_load1 Ty.one3 rfl) rfl ?_ | refine TD.runG rfl rfl (pure_load1_own Ty.one3 rfl (by repeat (first | exact List.Mem.head _ | apply List.Mem.tail)) (by repeat (first | exact DropR.zero _ | apply DropR.succ))) rfl ?_
                  refine TD.runG rfl rfl (pure_move rfl) rfl ?_
                  refine TD.runG rfl rfl (pure_move rfl) rfl ?_
                  refine TD.runG rfl rfl (pure_indexAddr Ty.sl44 rfl rfl (by omega) hcell (List.cons_ne_nil _ _)) rfl ?_
                  first | refine TD.runG rfl rfl (pure_fieldAddr Ty.f51_0 rfl (.zero _) (List.cons_ne_nil _ _)) rfl ?_ | refine TD.runG rfl rfl (pure_fieldAddr_own Ty.f51_0 rfl) rfl ?_
                  first | refine TD.runG rfl rfl (pure_load1 Ty.one3 rfl) rfl ?_ | refine TD.runG rfl rfl (pure_load1_own Ty.one3 rfl (by repeat (first | exact List.Mem.head _ | apply List.Mem.tail)) (by repeat (first | exact DropR.zero _ | apply DropR.succ))) rfl ?_
                  refine TD.runG rfl rfl (pure_neq rfl rfl) rfl ?_
                  refine TD.run1 (pure_pick_false rfl rfl) rfl ?_
                  refine TD.run1 (pure_move rfl) rfl ?_
                  first | refine TD.splitP 138 rfl (fun hg138 => ?_) (fun hg138 => ?_) | refine TD.split 138 rfl (fun hg138 => ?_) (fun hg138 => ?_)
                  · try dsimp only at hg138
                    refine TD.passG rfl rfl rfl rfl ?_
                    refine TD.passG rfl rfl rfl rfl ?_
                    refine TD.passG rfl rfl rfl rfl ?_
                    refine TD.passG rfl rfl rfl rfl ?_
                    refine TD.passG rfl rfl rfl rfl ?_
                    refine TD.passG rfl rfl rfl rfl ?_
                    refine TD.passG rfl rfl rfl rfl ?_
                    refine TD.passG rfl rfl rfl rfl ?_
                    refine TD.passG rfl rfl rfl rfl ?_
                    refine TD.run1 (pure_pick_true rfl rfl) rfl ?_
                    refine TD.run1 (pure_move rfl) rfl ?_
                    refine TD.passG rfl rfl rfl rfl ?_
                    refine TD.passG rfl rfl rfl rfl ?_
                    refine TD.passG rfl rfl rfl rfl ?_
                    refine TD.passG rfl rfl rfl rfl ?_
                    refine TD.passG rfl rfl rfl rfl ?_
                    refine TD.run1 (pure_pick_true rfl rfl) rfl ?_
                    refine TD.run1 (pure_move rfl) rfl ?_
                    refine TD.passG rfl rfl rfl rfl ?_
                    refine TD.passG rfl rfl rfl rfl ?_
                    refine TD.passG rfl rfl rfl rfl ?_
                    refine TD.passG rfl rfl rfl rfl ?_
                    refine TD.passG rfl rfl rfl rfl ?_
                    refine TD.run1 (pure_pick_true rfl rfl) rfl ?_
                    refine TD.cutEnd (by repeat (first | exact Same.refl _ _ | refine Same.put rfl ?_)) rfl ?_
                    first | (simp_all; done) | (simp_all; omega) | omega
                  · try dsimp only at hg138
                    first | refine TD.runG rfl rfl (pure_fieldAddr Ty.f40_2 rfl (.succ (.succ (.zero _))) (List.cons_ne_nil _ _)) rfl ?_ | refine TD.runG rfl rfl (pure_fieldAddr_own Ty.f40_2 rfl) rfl ?_
                    first | refine TD.runG rfl rfl (pure_fieldAddr Ty.f38_3 rfl (.succ (.succ (.succ (.zero _)))) (List.cons_ne_nil _ _)) rfl ?_ | refine TD.runG rfl rfl (pure_fieldAddr_own Ty.f38_3 rfl) rfl ?_
                    first | refine TD.runG rfl rfl (pure_load1 Ty.one3 rfl) rfl ?_ | refine TD.runG rfl rfl (pure_load1_own Ty.one3 rfl (by repeat (first | exact List.Mem.head _ | apply List.Mem.tail)) (by repeat (first | exact DropR.zero _ | apply DropR.succ))) rfl ?_
                    refine TD.runG rfl rfl (pure_move rfl) rfl ?_
                    refine TD.runG rfl rfl (pure_move rfl) rfl ?_
                    refine TD.runG rfl rfl (pure_indexAddr Ty.sl44 rfl rfl (by omega) hcell (List.cons_ne_nil _ _)) rfl ?_
                    first | refine TD.runG rfl rfl (pure_fieldAddr Ty.f51_1 rfl (.succ (.zero _)) (List.cons_ne_nil _ _)) rfl ?_ | refine TD.runG rfl rfl (pure_fieldAddr_own Ty.f51_1 rfl) rfl ?_
                    first | refine TD.runG rfl rfl (pure_load1 Ty.one3 rfl) rfl ?_ | refine TD.runG rfl rfl (pure_load1_own Ty.one3 rfl (by repeat (first | exact List.Mem.head _ | apply List.Mem.tail)) (by repeat (first | exact DropR.zero _ | apply DropR.succ))) rfl ?_
                    refine TD.runG rfl rfl (pure_neq rfl rfl) rfl ?_
                    refine TD.run1 (pure_pick_false rfl rfl) rfl ?_
                    refine TD.run1 (pure_move rfl) rfl ?_
                    first | refine TD.splitP 149 rfl (fun hg149 => ?_) (fun hg149 => ?_) | refine TD.split 149 rfl (fun hg149 => ?_) (fun hg149 => ?_)
                    · try dsimp only at hg149
                      refine TD.passG rfl rfl rfl rfl ?_
                      refine TD.passG rfl rfl rfl rfl ?_
                      refine TD.passG rfl rfl rfl rfl ?_
                      refine TD.passG rfl rfl rfl rfl ?_
                      refine TD.passG rfl rfl rfl rfl ?_
                      refine TD.run1 (pure_pick_true rfl rfl) rfl ?_
                      refine TD.run1 (pure_move rfl) rfl ?_
                      refine TD.passG rfl rfl rfl rfl ?_
                      refine TD.passG rfl rfl rfl rfl ?_
                      refine TD.passG rfl rfl rfl rfl ?_
                      refine TD.passG rfl rfl rfl rfl ?_
                      refine TD.passG rfl rfl rfl rfl ?_
                      refine TD.run1 (pure_pick_true rfl rfl) rfl ?_
                      refine TD.cutEnd (by repeat (first | exact Same.refl _ _ | refine Same.put rfl ?_)) rfl ?_
                      first | (simp_all; done) | (simp_all; omega) | omega
                    · try dsimp only at hg149
                      refine TD.runG rfl rfl (pure_move rfl) rfl ?_
                      first | refine TD.runG rfl rfl (pure_fieldAddr Ty.f40_2 rfl (.succ (.succ (.zero _))) (List.cons_ne_nil _ _)) rfl ?_ | refine TD.runG rfl rfl (pure_fieldAddr_own Ty.f40_2 rfl) rfl ?_
                      first | refine TD.runG rfl rfl (pure_fieldAddr Ty.f38_0 rfl (.zero _) (List.cons_ne_nil _ _)) rfl ?_ | refine TD.runG rfl rfl (pure_fieldAddr_own Ty.f38_0 rfl) rfl ?_
                      first | refine TD.runG rfl rfl (pure_load1 Ty.one3 rfl) rfl ?_ | refine TD.runG rfl rfl (pure_load1_own Ty.one3 rfl (by repeat (first | exact List.Mem.head _ | apply List.Mem.tail)) (by repeat (first | exact DropR.zero _ | apply DropR.succ))) rfl ?_
                      refine TD.runG rfl rfl (pure_lss rfl rfl) rfl ?_
                      refine TD.run1 (pure_pick_false rfl rfl) rfl ?_
                      refine TD.run1 (pure_move rfl) rfl ?_
                      first | refine TD.splitP 156 rfl (fun hg156 => ?_) (fun hg156 => ?_) | refine TD.split 156 rfl (fun hg156 => ?_) (fun hg156 => ?_)
                      · try dsimp only at hg156
                        refine TD.passG rfl rfl rfl rfl ?_
                        refine TD.passG rfl rfl rfl rfl ?_
                        refine TD.passG rfl rfl rfl rfl ?_
                        refine TD.passG rfl rfl rfl rfl ?_
                        refine TD.passG rfl rfl rfl rfl ?_
                        refine TD.run1 (pure_pick_true rfl rfl) rfl ?_
                        refine TD.cutEnd (by repeat (first | exact Same.refl _ _ | refine Same.put rfl ?_)) rfl ?_
                        first | (simp_all; done) | (simp_all; omega) | omega
                      · try dsimp only at hg156
                        refine TD.runG rfl rfl (pure_move rfl) rfl ?_
                        first | refine TD.runG rfl rfl (pure_fieldAddr Ty.f40_2 rfl (.succ (.succ (.zero _))) (List.cons_ne_nil _ _)) rfl ?_ | refine TD.runG rfl rfl (pure_fieldAddr_own Ty.f40_2 rfl) rfl ?_
                        first | refine TD.runG rfl rfl (pure_fieldAddr Ty.f38_2 rfl (.succ (.succ (.zero _))) (List.cons_ne_nil _ _)) rfl ?_ | refine TD.runG rfl rfl (pure_fieldAddr_own Ty.f38_2 rfl) rfl ?_
                        first | refine TD.runG rfl rfl (pure_load1 Ty.one3 rfl) rfl ?_ | refine TD.runG rfl rfl (pure_load1_own Ty.one3 rfl (by repeat (first | exact List.Mem.head _ | apply List.Mem.tail)) (by repeat (first | exact DropR.zero _ | apply DropR.succ))) rfl ?_
                        refine TD.runG rfl rfl (pure_geq rfl rfl) rfl ?_
                        refine TD.run1 (pure_pick_false rfl rfl) rfl ?_
                        refine TD.cutEnd (by repeat (first | exact Same.refl _ _ | refine Same.put rfl ?_)) rfl ?_
                        first | (simp_all; done) | (simp_all; omega) | omega
              first | refine TC.condD rfl (fun hc162 => ?_) (fun hc162 => ?_) | refine TC.condN rfl (fun hc162 => ?_) (fun hc162 => ?_) | refine TC.cond rfl (fun hc162 => ?_) (fun hc162 => ?_)
              · try dsimp only at hc162
                all_goals exact absurd hc162 id
              · try dsimp only at hc162
                refine TC.skip ?_
                refine block_normal ?_
                refine then_normal ?_
                refine TC.region ?_
                refine TL.run1 (pure_move rfl) rfl ?_
                refine TL.run1 (pure_add rfl rfl (mkI64 (by omega) (by omega))) rfl ?_
                refine TL.run1 (pure_assign rfl) rfl ?_
                refine TL.nil ?_
                refine loop_next (k + 1) ⟨by repeat (first | exact Agree.nil | refine Agree.cons rfl ?_), by repeat (first | exact List.nil_sublist _ | exact List.Sublist.refl _ | apply List.Sublist.cons_cons | apply List.Sublist.cons)⟩ ⟨by omega, by omega⟩ (by omega)
          · try dsimp only at hc102
            refine TC.exit ?_
            refine then_exit ?_
            refine loop_exit ?_
            refine block_here ?_
            refine block_normal ?_
            refine then_normal ?_
            refine TC.region ?_
            refine TL.run1 (pure_move rfl) rfl ?_
            refine TL.run1 (pure_add rfl rfl (mkI64 (by omega) (by omega))) rfl ?_
            refine TL.run1 (pure_assign rfl) rfl ?_
            refine TL.nil ?_
            refine loop_next (i + 1) ⟨by repeat (first | exact Agree.nil | refine Agree.cons rfl ?_), by repeat (first | exact List.nil_sublist _ | exact List.Sublist.refl _ | apply List.Sublist.cons_cons | apply List.Sublist.cons)⟩ ⟨by omega, by omega⟩ (by omega)
      · try dsimp only at hc77
        refine TC.exit ?_
        refine then_exit ?_
        refine loop_exit ?_
        refine block_here ?_
        refine then_normal ?_
        refine TC.seq ?_
        refine TC.region ?_
        refine TL.run1 (pure_assign rfl) rfl ?_
        refine TL.nil' ?_
        refine TC.ret ?_
        exact ret_bool rfl rfl
end Go.Ob
