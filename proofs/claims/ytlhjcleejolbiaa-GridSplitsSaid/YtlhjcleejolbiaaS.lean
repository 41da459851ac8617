import Derived.Test.YtlhjcleejolbiaaL
import Derived.Test.YtlhjcleejolbiaaObO
set_option linter.unusedVariables false
set_option linter.unusedSimpArgs false
namespace Go.Ob
open Go.Proofs

/-! ### the reference's readers, plain -/
theorem getP_drop0 (ps : List (Int × Int)) (key dflt : Int) : getP (ps.drop (0 : Int).toNat) key dflt = getP ps key dflt := rfl
/-- a prefix of the spans: what the reference's loop has when it has gone over so many cells -/
def spTo (r : RowD) (i : Int) : Int := if i = 0 then 0 else (sAt (spansR r) (i - 1)).2
def spFrom (r : RowD) (i : Int) : Int := if i = 0 then 0 else (sAt (spansR r) (i - 1)).1
theorem spansFrom_at : ∀ (cs : List CellD) (k : Int) (i : Nat), i < cs.length →
    (spansFrom k cs).getD i (0, 0) = ((if i = 0 then k else ((spansFrom k cs).getD (i - 1) (0, 0)).2),
      (if i = 0 then k else ((spansFrom k cs).getD (i - 1) (0, 0)).2) + min (spanN (cs.getD i cell0)) (32 - (if i = 0 then k else ((spansFrom k cs).getD (i - 1) (0, 0)).2)))
  | [], _, _, h => by simp at h
  | c :: cs, k, 0, _ => by simp [spansFrom]
  | c :: cs, k, 1, h => by
    have := spansFrom_at cs (k + min (spanN c) (32 - k)) 0 (by simpa using h)
    simpa [spansFrom] using this
  | c :: cs, k, i + 2, h => by
    have := spansFrom_at cs (k + min (spanN c) (32 - k)) (i + 1) (by simp only [List.length_cons] at h; omega)
    simpa [spansFrom] using this
theorem sAt_step (r : RowD) (i : Int) (h0 : 0 ≤ i) (h1 : i < r.cells.length) : sAt (spansR r) i = (spTo r i, spTo r i + min (spanN (cAt r.cells i)) (32 - spTo r i)) := by
  have h := spansFrom_at r.cells 0 i.toNat (by omega)
  unfold sAt spTo spansR cAt
  by_cases hi : i = 0
  · subst hi; rw [h]; simp
  · rw [if_neg hi, h]
    have e : (i - 1).toNat = i.toNat - 1 := by omega
    simp only [sAt, e, show i.toNat ≠ 0 by omega, if_false]
theorem sp_range (r : RowD) (i : Int) (h0 : 0 ≤ i) (h1 : i ≤ r.cells.length) : 0 ≤ spTo r i ∧ spTo r i ≤ 32 := by
  have : ∀ n : Nat, n ≤ r.cells.length → 0 ≤ spTo r n ∧ spTo r n ≤ 32 := by
    intro n
    induction n with
    | zero => intro _; simp [spTo]
    | succ n ih =>
      intro hn
      have := ih (by omega)
      have e := sAt_step r n (by omega) (by omega)
      have e2 : spTo r ((n + 1 : Nat) : Int) = (sAt (spansR r) n).2 := by
        unfold spTo
        rw [if_neg (by omega), show ((n + 1 : Nat) : Int) - 1 = n by omega]
      rw [e2, e]
      dsimp only
      unfold spanN
      omega
  have h := this i.toNat (by omega)
  rwa [show ((i.toNat : Nat) : Int) = i by omega] at h
theorem spTo_succ (r : RowD) (i : Int) (h0 : 0 ≤ i) : spTo r (i + 1) = (sAt (spansR r) i).2 := by
  unfold spTo; rw [if_neg (by omega), show i + 1 - 1 = i by omega]
theorem spFrom_succ (r : RowD) (i : Int) (h0 : 0 ≤ i) : spFrom r (i + 1) = (sAt (spansR r) i).1 := by
  unfold spFrom; rw [if_neg (by omega), show i + 1 - 1 = i by omega]
/-- the number of columns -/
def widthN (rs : List RowD) : Nat → Int
  | 0 => 0
  | i + 1 => max (widthN rs i) (spTo (rAt rs i) (rAt rs i).cells.length)
theorem widthN_nonneg (rs : List RowD) : ∀ i, 0 ≤ widthN rs i
  | 0 => Int.le_refl _
  | i + 1 => by have := widthN_nonneg rs i; unfold widthN; omega
theorem spTo_mono (r : RowD) (i : Int) (h0 : 0 ≤ i) (h1 : i < r.cells.length) : spTo r i ≤ spTo r (i + 1) := by
  rw [spTo_succ r i h0, sAt_step r i h0 h1]
  have := sp_range r i h0 (by omega)
  dsimp only
  unfold spanN
  omega
set_option maxRecDepth 100000 in
theorem get_spec (ps : List (Int × Int)) (key dflt : Int) (hl : ps.length ≤ 1000000) : Fun Try.prog 40 [.sl 2 (encP ps), .v (.int .i64 key), .v (.int .i64 dflt)] (.v (.int .i64 (getP ps key dflt))) := by
  refine Fun.enter (n := 27) (rs := [.tmp 6]) Try.func40 rfl Try.ntmps40 Try.results40 rfl (fun w F => ?_)
  refine TC.seq ?_
  refine TC.region ?_
  refine TL.run1 (pure_assign rfl) rfl ?_
  refine TL.nil' ?_
  refine TC.seq ?_
  refine TC.seq ?_
  refine TC.region ?_
  refine TL.run1 (pure_assign rfl) rfl ?_
  refine TL.nil' ?_
  refine TC.block ?_
  refine TC.loopX (X := Int) (fun i => [(0, .sl 2 (encP ps)), (1, .v (.int .i64 key)), (2, .v (.int .i64 dflt)), (7, .v (.int .i64 i))]) (fun i => []) (fun i => (0 ≤ i) ∧ (i ≤ ps.length) ∧ (getP (ps.drop i.toNat) key dflt = getP ps key dflt)) (fun i => (ps.length - i).toNat) (0) ⟨by skip; repeat (first | exact Agree.nil | refine Agree.cons rfl ?_), by skip; repeat (first | exact List.nil_sublist _ | exact List.Sublist.refl _ | apply List.Sublist.cons_cons | apply List.Sublist.cons)⟩ ?_ ?_
  · skip
    exact ⟨by omega, by omega, rfl⟩
  intro i
  rintro ⟨h0, h1, h2⟩
  show TC _ _ _ (Env.of [(0, .sl 2 (encP ps)), (1, .v (.int .i64 key)), (2, .v (.int .i64 dflt)), (7, .v (.int .i64 i))]) []
  have hk : (encP ps).length = ps.length := encP_len ps
  refine TC.seq ?_
  refine TC.seq ?_
  refine TC.region ?_
  refine TL.run1 (pure_move rfl) rfl ?_
  refine TL.run1 (pure_move rfl) rfl ?_
  first | refine TL.run1 (pure_len Ty.sl27 rfl) rfl ?_ | refine TL.run1 (pure_len_row Ty.sl27 rfl (by repeat (first | exact List.Mem.head _ | apply List.Mem.tail))) rfl ?_ | refine TL.run1 (pure_len_nil Ty.sl27 rfl) rfl ?_
  refine TL.run1 (pure_lss rfl rfl) rfl ?_
  refine TL.nil' ?_
  first | refine TC.condD rfl (fun hc11 => ?_) (fun hc11 => ?_) | refine TC.condN rfl (fun hc11 => ?_) (fun hc11 => ?_) | refine TC.cond rfl (fun hc11 => ?_) (fun hc11 => ?_)
  · try dsimp only at hc11
    refine TC.skip' ?_
    refine TC.seq ?_
    refine TC.block ?_
    refine TC.seq ?_
    have hrow := encP_get ps i h0 (by omega)
    refine TC.region ?_
    refine TL.run1 (pure_move rfl) rfl ?_
    refine TL.run1 (pure_move rfl) rfl ?_
    refine TL.run1 (pure_indexAddr Ty.sl27 rfl rfl (by omega) (by assumption) (List.cons_ne_nil _ _)) rfl ?_
    first | refine TL.run1 (pure_fieldAddr Ty.f77_0 rfl (.zero _) (List.cons_ne_nil _ _)) rfl ?_ | refine TL.run1 (pure_fieldAddr_own Ty.f77_0 rfl) rfl ?_
    first | refine TL.run1 (pure_load1 Ty.one3 rfl) rfl ?_ | refine TL.run1 (pure_load1_own Ty.one3 rfl (by repeat (first | exact List.Mem.head _ | apply List.Mem.tail)) (by repeat (first | exact DropR.zero _ | apply DropR.succ))) rfl ?_
    refine TL.run1 (pure_move rfl) rfl ?_
    refine TL.run1 (pure_eql rfl rfl) rfl ?_
    refine TL.nil' ?_
    first | refine TC.condD rfl (fun hc20 => ?_) (fun hc20 => ?_) | refine TC.condN rfl (fun hc20 => ?_) (fun hc20 => ?_) | refine TC.cond rfl (fun hc20 => ?_) (fun hc20 => ?_)
    · try dsimp only at hc20
      refine TC.seq ?_
      refine TC.region ?_
      refine TL.run1 (pure_move rfl) rfl ?_
      refine TL.run1 (pure_move rfl) rfl ?_
      refine TL.run1 (pure_indexAddr Ty.sl27 rfl rfl (by omega) (by assumption) (List.cons_ne_nil _ _)) rfl ?_
      first | refine TL.run1 (pure_fieldAddr Ty.f77_1 rfl (.succ (.zero _)) (List.cons_ne_nil _ _)) rfl ?_ | refine TL.run1 (pure_fieldAddr_own Ty.f77_1 rfl) rfl ?_
      first | refine TL.run1 (pure_load1 Ty.one3 rfl) rfl ?_ | refine TL.run1 (pure_load1_own Ty.one3 rfl (by repeat (first | exact List.Mem.head _ | apply List.Mem.tail)) (by repeat (first | exact DropR.zero _ | apply DropR.succ))) rfl ?_
      refine TL.run1 (pure_assign rfl) rfl ?_
      refine TL.nil' ?_
      refine TC.ret ?_
      refine block_ret ?_
      refine then_ret ?_
      refine loop_ret ?_
      refine block_ret ?_
      refine then_ret ?_
      exact ret_int rfl (by rw [← h2, getP_drop ps i h0 (by omega), if_pos hc20])
    · try dsimp only at hc20
      refine TC.skip ?_
      refine block_normal ?_
      refine then_normal ?_
      refine TC.region ?_
      refine TL.run1 (pure_move rfl) rfl ?_
      refine TL.run1 (pure_add rfl rfl (mkI64 (by omega) (by omega))) rfl ?_
      refine TL.run1 (pure_assign rfl) rfl ?_
      refine TL.nil ?_
      refine loop_next (i + 1) ⟨by repeat (first | exact Agree.nil | refine Agree.cons rfl ?_), by repeat (first | exact List.nil_sublist _ | exact List.Sublist.refl _ | apply List.Sublist.cons_cons | apply List.Sublist.cons)⟩ ⟨by omega, by omega, ?_⟩ (by omega)
      rw [← h2, getP_drop ps i h0 (by omega), if_neg hc20]
  · try dsimp only at hc11
    refine TC.exit ?_
    refine then_exit ?_
    refine loop_exit ?_
    refine block_here ?_
    refine then_normal ?_
    refine TC.seq ?_
    refine TC.region ?_
    refine TL.run1 (pure_move rfl) rfl ?_
    refine TL.run1 (pure_assign rfl) rfl ?_
    refine TL.nil' ?_
    refine TC.ret ?_
    exact ret_int rfl (by rw [← h2, List.drop_eq_nil_of_le (by omega)]; rfl)
set_option maxRecDepth 100000 in
theorem span_spec (r : RowD) (hr : RowOk r) (cell : Int) (h0 : 0 ≤ cell) (h1 : cell < r.cells.length) : Fun Try.prog 19 [.agg (encR r), .v (.int .i64 cell)] (.tup [.v (.int .i64 (sAt (spansR r) cell).1), .v (.int .i64 (sAt (spansR r) cell).2)]) := by
  have hrl := hr.2.1
  refine Fun.enter (n := 31) (rs := [.tmp 4, .tmp 5]) Try.func19 rfl Try.ntmps19 Try.results19 rfl (fun w F => ?_)
  refine TC.seq ?_
  refine TC.region ?_
  refine TL.box rfl (.agg _) rfl (fun g2 => ?_)
  refine TL.run1 (pure_assign rfl) rfl ?_
  refine TL.run1 (pure_assign rfl) rfl ?_
  refine TL.nil' ?_
  refine TC.seq ?_
  refine TC.seq ?_
  refine TC.region ?_
  refine TL.run1 (pure_assign rfl) rfl ?_
  refine TL.nil' ?_
  refine TC.block ?_
  refine TC.loopX (X := Int) (fun i => [(1, .v (.int .i64 cell)), (2, .v (.pointer (some ⟨g2, 0, none⟩))), (4, .v (.int .i64 (spFrom r i))), (5, .v (.int .i64 (spTo r i))), (6, .v (.int .i64 i))]) (fun i => [.box g2 36 (encR r)]) (fun i => (0 ≤ i) ∧ (i ≤ cell + 1)) (fun i => (cell + 1 - i).toNat) (0) ⟨by skip; repeat (first | exact Agree.nil | refine Agree.cons rfl ?_), by skip; repeat (first | exact List.nil_sublist _ | exact List.Sublist.refl _ | apply List.Sublist.cons_cons | apply List.Sublist.cons)⟩ ?_ ?_
  · skip
    exact ⟨by omega, by omega⟩
  intro i
  rintro ⟨k0, k1⟩
  show TC _ _ _ (Env.of [(1, .v (.int .i64 cell)), (2, .v (.pointer (some ⟨g2, 0, none⟩))), (4, .v (.int .i64 (spFrom r i))), (5, .v (.int .i64 (spTo r i))), (6, .v (.int .i64 i))]) [.box g2 36 (encR r)]
  have hk := encCs_len r.cells
  refine TC.seq ?_
  refine TC.seq ?_
  refine TC.region ?_
  refine TL.run1 (pure_move rfl) rfl ?_
  refine TL.run1 (pure_move rfl) rfl ?_
  refine TL.run1 (pure_leq rfl rfl) rfl ?_
  refine TL.nil' ?_
  first | refine TC.condD rfl (fun hc10 => ?_) (fun hc10 => ?_) | refine TC.condN rfl (fun hc10 => ?_) (fun hc10 => ?_) | refine TC.cond rfl (fun hc10 => ?_) (fun hc10 => ?_)
  · try dsimp only at hc10
    refine TC.skip' ?_
    refine TC.seq ?_
    refine TC.block ?_
    refine TC.seq ?_
    refine TC.region ?_
    refine TL.run1 (pure_move rfl) rfl ?_
    refine TL.run1 (pure_assign rfl) rfl ?_
    refine TL.nil' ?_
    refine TC.seq ?_
    have hrow := encCs_get r.cells i k0 (by omega)
    have hok := hr.1 _ (cAt_mem r.cells i k0 (by omega))
    have hrg := sp_range r i k0 (by omega)
    have hsp : 1 ≤ max (getP (cAt r.cells i).props 60 1) 1 := by omega
    refine TC.region ?_
    first | refine TL.run1 (pure_fieldAddr Ty.f36_1 rfl (.succ (.succ (.succ (.succ (.succ (.zero _)))))) (List.cons_ne_nil _ _)) rfl ?_ | refine TL.run1 (pure_fieldAddr_own Ty.f36_1 rfl) rfl ?_
    first | refine TL.run1 (pure_load1 Ty.one34 rfl) rfl ?_ | refine TL.run1 (pure_load1_own Ty.one34 rfl (by repeat (first | exact List.Mem.head _ | apply List.Mem.tail)) (by repeat (first | exact DropR.zero _ | apply DropR.succ))) rfl ?_
    refine TL.run1 (pure_move rfl) rfl ?_
    refine TL.run1 (pure_indexAddr Ty.sl34 rfl rfl (by omega) (by assumption) (List.cons_ne_nil _ _)) rfl ?_
    first | refine TL.run1 (pure_fieldAddr Ty.f74_1 rfl (.succ (.zero _)) (List.cons_ne_nil _ _)) rfl ?_ | refine TL.run1 (pure_fieldAddr_own Ty.f74_1 rfl) rfl ?_
    first | refine TL.run1 (pure_fieldAddr Ty.f33_0 rfl (.zero _) (List.cons_ne_nil _ _)) rfl ?_ | refine TL.run1 (pure_fieldAddr_own Ty.f33_0 rfl) rfl ?_
    first | refine TL.run1 (pure_load1 Ty.one27 rfl) rfl ?_ | refine TL.run1 (pure_load1_own Ty.one27 rfl (by repeat (first | exact List.Mem.head _ | apply List.Mem.tail)) (by repeat (first | exact DropR.zero _ | apply DropR.succ))) rfl ?_
    refine TL.run1 (pure_call (get_spec _ _ _ hok.2) (.cons rfl (.cons rfl (.cons rfl .nil))) Try.call40) rfl ?_
    refine TL.run1 (pure_max rfl rfl) rfl ?_
    refine TL.run1 (pure_assign rfl) rfl ?_
    refine TL.nil' ?_
    refine TC.region ?_
    refine TL.run1 (pure_move rfl) rfl ?_
    refine TL.run1 (pure_move rfl) rfl ?_
    refine TL.run1 (pure_move rfl) rfl ?_
    refine TL.run1 (pure_sub rfl rfl (mkI64 (by omega) (by omega))) rfl ?_
    refine TL.run1 (pure_min rfl rfl) rfl ?_
    refine TL.run1 (pure_add rfl rfl (mkI64 (by omega) (by omega))) rfl ?_
    refine TL.run1 (pure_assign rfl) rfl ?_
    refine TL.nil ?_
    refine block_normal ?_
    refine then_normal ?_
    refine TC.region ?_
    refine TL.run1 (pure_move rfl) rfl ?_
    refine TL.run1 (pure_add rfl rfl (mkI64 (by omega) (by omega))) rfl ?_
    refine TL.run1 (pure_assign rfl) rfl ?_
    refine TL.nil ?_
    have hst := sAt_step r i k0 (by omega)
    refine loop_next (i + 1) ⟨?_, by repeat (first | exact List.nil_sublist _ | exact List.Sublist.refl _ | apply List.Sublist.cons_cons | apply List.Sublist.cons)⟩ ⟨by omega, by omega⟩ (by omega)
    rw [spTo_succ r i k0, spFrom_succ r i k0, hst]
    repeat (first | exact Agree.nil | refine Agree.cons rfl ?_)
  · try dsimp only at hc10
    refine TC.exit ?_
    refine then_exit ?_
    refine loop_exit ?_
    refine block_here ?_
    refine then_normal ?_
    refine TC.seq ?_
    refine TC.region ?_
    refine TL.run1 (pure_move rfl) rfl ?_
    refine TL.run1 (pure_move rfl) rfl ?_
    refine TL.run1 (pure_assign rfl) rfl ?_
    refine TL.run1 (pure_assign rfl) rfl ?_
    refine TL.nil' ?_
    refine TC.ret ?_
    exact ret2 (.inl rfl) rfl rfl (by rw [show i = cell + 1 by omega, spTo_succ r cell h0, spFrom_succ r cell h0])
set_option maxRecDepth 100000 in
theorem Spans_spec (rs : List RowD) (hr : TabOk rs) (row : Int) : Fun Try.prog 16 [.sl 6 (encRs rs), .v (.int .i64 row)] (.tup [.sl 2 (encS (if (0 ≤ row ∧ row < rs.length) then spansR (rAt rs row) else [])), .v (.int .i64 (if (0 ≤ row ∧ row < rs.length) then 0 else 2))]) := by
  refine Fun.enter (n := 19) (rs := [.tmp 4, .tmp 5]) Try.func16 rfl Try.ntmps16 Try.results16 rfl (fun w F => ?_)
  have hk := encRs_len rs
  refine TC.seq ?_
  refine TC.region ?_
  refine TL.run1 (pure_assign rfl) rfl ?_
  refine TL.run1 (pure_assign rfl) rfl ?_
  refine TL.nil' ?_
  refine TC.seq ?_
  refine TC.regionCut [6, 7, 8, 9, 10, 11, 12, 13] 13 (row < 0 ∨ row ≥ rs.length) ?_ ?_
  · skip
    refine TL.run1 (pure_move rfl) rfl ?_
    refine TL.run1 (pure_lss rfl rfl) rfl ?_
    refine TL.run1 (pure_move rfl) rfl ?_
    first | refine TL.splitP 8 rfl (fun hg8 => ?_) (fun hg8 => ?_) | refine TL.split 8 rfl (fun hg8 => ?_) (fun hg8 => ?_)
    · try dsimp only at hg8
      refine TL.passG rfl rfl rfl rfl ?_
      refine TL.passG rfl rfl rfl rfl ?_
      refine TL.passG rfl rfl rfl rfl ?_
      refine TL.passG rfl rfl rfl rfl ?_
      refine TL.run1 (pure_pick_true rfl rfl) rfl ?_
      refine TL.cutEnd (by repeat (first | exact Same.refl _ _ | refine Same.put rfl ?_)) rfl ?_
      first | (simp only [decide_eq_true_eq, Bool.false_eq_true, false_iff, true_iff, iff_true, iff_false, Bool.not_eq_true]; omega) | (simp_all; done) | (simp_all; omega) | grind
    · try dsimp only at hg8
      refine TL.runG rfl rfl (pure_move rfl) rfl ?_
      refine TL.runG rfl rfl (pure_move rfl) rfl ?_
      first | refine TL.runG rfl rfl (pure_len Ty.sl22 rfl) rfl ?_ | refine TL.runG rfl rfl (pure_len_row Ty.sl22 rfl (by repeat (first | exact List.Mem.head _ | apply List.Mem.tail))) rfl ?_ | refine TL.runG rfl rfl (pure_len_nil Ty.sl22 rfl) rfl ?_
      refine TL.runG rfl rfl (pure_geq rfl rfl) rfl ?_
      refine TL.run1 (pure_pick_false rfl rfl) rfl ?_
      refine TL.cutEnd (by repeat (first | exact Same.refl _ _ | refine Same.put rfl ?_)) rfl ?_
      first | (simp only [decide_eq_true_eq, Bool.false_eq_true, false_iff, true_iff, iff_true, iff_false, Bool.not_eq_true]; omega) | (simp_all; done) | (simp_all; omega) | grind
  first | refine TC.condD rfl (fun hc13 => ?_) (fun hc13 => ?_) | refine TC.condN rfl (fun hc13 => ?_) (fun hc13 => ?_) | refine TC.cond rfl (fun hc13 => ?_) (fun hc13 => ?_)
  · try dsimp only at hc13
    refine TC.seq ?_
    refine TC.region ?_
    refine TL.run1 (pure_assign rfl) rfl ?_
    refine TL.run1 (pure_assign rfl) rfl ?_
    refine TL.nil' ?_
    refine TC.le 4 rfl (Le.nil 2) ?_
    refine TC.ret ?_
    refine then_ret ?_
    exact ret2 (.inl rfl) rfl rfl (by rw [if_neg (by omega), if_neg (by omega)]; rfl)
  · try dsimp only at hc13
    refine TC.skip' ?_
    refine TC.seq ?_
    have hrow := encRs_get rs row (by omega) (by omega)
    refine TC.region ?_
    refine TL.run1 (pure_move rfl) rfl ?_
    refine TL.run1 (pure_move rfl) rfl ?_
    refine TL.run1 (pure_indexAddr Ty.sl22 rfl rfl (by omega) (by assumption) (List.cons_ne_nil _ _)) rfl ?_
    first | refine TL.run1 (pure_load Ty.agg36 rfl (.succ (.succ (.succ (.succ (.succ (.succ (.zero _)))))))) rfl ?_ | refine TL.run1 (pure_load_own Ty.agg36 rfl (by repeat (first | exact List.Mem.head _ | apply List.Mem.tail)) (by repeat (first | exact DropR.zero _ | apply DropR.succ)) (.succ (.succ (.succ (.succ (.succ (.succ (.zero _)))))))) rfl ?_
    refine TL.run1 (pure_call (spans_spec _ (hr.1 _ (rAt_mem rs row (by omega) (by omega)))) (.cons rfl .nil) Try.call39) rfl ?_
    refine TL.run1 (pure_assign rfl) rfl ?_
    refine TL.run1 (pure_assign rfl) rfl ?_
    refine TL.nil' ?_
    refine TC.ret ?_
    exact ret2 (.inl rfl) rfl rfl (by rw [if_pos (by omega), if_pos (by omega)])
set_option maxRecDepth 100000 in
theorem Columns_spec (rs : List RowD) (hr : TabOk rs) : Fun Try.prog 17 [.sl 6 (encRs rs)] (.v (.int .i64 (widthN rs rs.length))) := by
  have hrl0 := hr.2
  refine Fun.enter (n := 28) (rs := [.tmp 2]) Try.func17 rfl Try.ntmps17 Try.results17 rfl (fun w F => ?_)
  refine TC.seq ?_
  refine TC.region ?_
  refine TL.run1 (pure_assign rfl) rfl ?_
  refine TL.nil' ?_
  refine TC.seq ?_
  refine TC.region ?_
  refine TL.run1 (pure_assign rfl) rfl ?_
  refine TL.nil' ?_
  refine TC.seq ?_
  refine TC.seq ?_
  refine TC.region ?_
  refine TL.run1 (pure_move rfl) rfl ?_
  first | refine TL.run1 (pure_len Ty.sl22 rfl) rfl ?_ | refine TL.run1 (pure_len_row Ty.sl22 rfl (by repeat (first | exact List.Mem.head _ | apply List.Mem.tail))) rfl ?_ | refine TL.run1 (pure_len_nil Ty.sl22 rfl) rfl ?_
  refine TL.run1 (pure_move rfl) rfl ?_
  refine TL.nil' ?_
  refine TC.block ?_
  refine TC.loopX (X := Int) (fun i => [(3, .v (.int .i64 (widthN rs i.toNat))), (8, .sl 6 (encRs rs)), (9, .v (.int .i64 (encRs rs).length)), (10, .v (.int .i64 i))]) (fun i => []) (fun i => (0 ≤ i) ∧ (i ≤ rs.length)) (fun i => (rs.length - i).toNat) (0) ⟨by skip; repeat (first | exact Agree.nil | refine Agree.cons rfl ?_), by skip; repeat (first | exact List.nil_sublist _ | exact List.Sublist.refl _ | apply List.Sublist.cons_cons | apply List.Sublist.cons)⟩ ?_ ?_
  · skip
    exact ⟨by omega, by omega⟩
  intro i
  rintro ⟨h0, h1⟩
  show TC _ _ _ (Env.of [(3, .v (.int .i64 (widthN rs i.toNat))), (8, .sl 6 (encRs rs)), (9, .v (.int .i64 (encRs rs).length)), (10, .v (.int .i64 i))]) []
  have hk := encRs_len rs
  refine TC.seq ?_
  refine TC.region ?_
  refine TL.run1 (pure_lss rfl rfl) rfl ?_
  refine TL.nil' ?_
  refine TC.seq ?_
  first | refine TC.condD rfl (fun hc11 => ?_) (fun hc11 => ?_) | refine TC.condN rfl (fun hc11 => ?_) (fun hc11 => ?_) | refine TC.cond rfl (fun hc11 => ?_) (fun hc11 => ?_)
  · try dsimp only at hc11
    refine TC.skip' ?_
    refine TC.seq ?_
    refine TC.block ?_
    refine TC.seq ?_
    have hrow := encRs_get rs i h0 (by omega)
    have hro := hr.1 _ (rAt_mem rs i h0 (by omega))
    have hrl := hro.2.1
    refine TC.region ?_
    refine TL.run1 (pure_indexAddr Ty.sl22 rfl rfl (by omega) (by assumption) (List.cons_ne_nil _ _)) rfl ?_
    first | refine TL.run1 (pure_load Ty.agg36 rfl (.succ (.succ (.succ (.succ (.succ (.succ (.zero _)))))))) rfl ?_ | refine TL.run1 (pure_load_own Ty.agg36 rfl (by repeat (first | exact List.Mem.head _ | apply List.Mem.tail)) (by repeat (first | exact DropR.zero _ | apply DropR.succ)) (.succ (.succ (.succ (.succ (.succ (.succ (.zero _)))))))) rfl ?_
    refine TL.alloc Ty.zero36 rfl (fun g5 => ?_)
    refine TL.store rfl rfl (.agg _) Try.sizeOf36 rfl (by repeat (first | exact UpdR.here _ | apply UpdR.there)) (by repeat (first | exact PutR.nil _ | apply PutR.here | apply PutR.skip)) ?_
    refine TL.nil' ?_
    refine TC.seq ?_
    refine TC.region ?_
    first | refine TL.run1 (pure_load Ty.agg36 rfl (.succ (.succ (.succ (.succ (.succ (.succ (.zero _)))))))) rfl ?_ | refine TL.run1 (pure_load_own Ty.agg36 rfl (by repeat (first | exact List.Mem.head _ | apply List.Mem.tail)) (by repeat (first | exact DropR.zero _ | apply DropR.succ)) (.succ (.succ (.succ (.succ (.succ (.succ (.zero _)))))))) rfl ?_
    refine TL.run1 (pure_call (spans_spec _ (hr.1 _ (rAt_mem rs i (by omega) (by omega)))) (.cons rfl .nil) Try.call39) rfl ?_
    first | refine TL.run1 (pure_len Ty.sl44 rfl) rfl ?_ | refine TL.run1 (pure_len_row Ty.sl44 rfl (by repeat (first | exact List.Mem.head _ | apply List.Mem.tail))) rfl ?_ | refine TL.run1 (pure_len_nil Ty.sl44 rfl) rfl ?_
    refine TL.run1 (pure_move rfl) rfl ?_
    refine TL.nil' ?_
    refine TC.block ?_
    refine TC.loopX (X := Int) (fun k => [(3, .v (.int .i64 (max (widthN rs i.toNat) (spTo (rAt rs i) k)))), (8, .sl 6 (encRs rs)), (9, .v (.int .i64 (encRs rs).length)), (10, .v (.int .i64 i)), (15, .sl 2 (encS (spansR (rAt rs i)))), (16, .v (.int .i64 (encS (spansR (rAt rs i))).length)), (17, .v (.int .i64 k))]) (fun k => []) (fun k => (0 ≤ k) ∧ (k ≤ (rAt rs i).cells.length)) (fun k => ((rAt rs i).cells.length - k).toNat) (0) ⟨by rw [show max (widthN rs i.toNat) (spTo (rAt rs i) 0) = widthN rs i.toNat by (have := widthN_nonneg rs i.toNat; have : spTo (rAt rs i) 0 = 0 := rfl; omega)]; repeat (first | exact Agree.nil | refine Agree.cons rfl ?_), by skip; repeat (first | exact List.nil_sublist _ | exact List.Sublist.refl _ | apply List.Sublist.cons_cons | apply List.Sublist.cons)⟩ ?_ ?_
    · skip
      exact ⟨by omega, by omega⟩
    intro k
    rintro ⟨k0, k1⟩
    show TC _ _ _ (Env.of [(3, .v (.int .i64 (max (widthN rs i.toNat) (spTo (rAt rs i) k)))), (8, .sl 6 (encRs rs)), (9, .v (.int .i64 (encRs rs).length)), (10, .v (.int .i64 i)), (15, .sl 2 (encS (spansR (rAt rs i)))), (16, .v (.int .i64 (encS (spansR (rAt rs i))).length)), (17, .v (.int .i64 k))]) []
    have hl2 := encS_len (spansR (rAt rs i))
    have hl3 : (spansR (rAt rs i)).length = (rAt rs i).cells.length := spansFrom_len _ _
    refine TC.seq ?_
    refine TC.region ?_
    refine TL.run1 (pure_lss rfl rfl) rfl ?_
    refine TL.nil' ?_
    refine TC.seq ?_
    first | refine TC.condD rfl (fun hc18 => ?_) (fun hc18 => ?_) | refine TC.condN rfl (fun hc18 => ?_) (fun hc18 => ?_) | refine TC.cond rfl (fun hc18 => ?_) (fun hc18 => ?_)
    · try dsimp only at hc18
      refine TC.skip' ?_
      refine TC.seq ?_
      refine TC.block ?_
      refine TC.seq ?_
      have hs := encS_get (spansR (rAt rs i)) k k0 (by omega)
      refine TC.region ?_
      refine TL.run1 (pure_indexAddr Ty.sl44 rfl rfl (by omega) (by assumption) (List.cons_ne_nil _ _)) rfl ?_
      first | refine TL.run1 (pure_load Ty.agg51 rfl (.succ (.succ (.zero _)))) rfl ?_ | refine TL.run1 (pure_load_own Ty.agg51 rfl (by repeat (first | exact List.Mem.head _ | apply List.Mem.tail)) (by repeat (first | exact DropR.zero _ | apply DropR.succ)) (.succ (.succ (.zero _)))) rfl ?_
      refine TL.alloc Ty.zero51 rfl (fun g7 => ?_)
      refine TL.store rfl rfl (.agg _) Try.sizeOf51 rfl (by repeat (first | exact UpdR.here _ | apply UpdR.there)) (by repeat (first | exact PutR.nil _ | apply PutR.here | apply PutR.skip)) ?_
      refine TL.nil' ?_
      refine TC.region ?_
      refine TL.run1 (pure_move rfl) rfl ?_
      first | refine TL.run1 (pure_fieldAddr Ty.f51_1 rfl (.succ (.zero _)) (List.cons_ne_nil _ _)) rfl ?_ | refine TL.run1 (pure_fieldAddr_own Ty.f51_1 rfl) rfl ?_
      first | refine TL.run1 (pure_load1 Ty.one3 rfl) rfl ?_ | refine TL.run1 (pure_load1_own Ty.one3 rfl (by repeat (first | exact List.Mem.head _ | apply List.Mem.tail)) (by repeat (first | exact DropR.zero _ | apply DropR.succ))) rfl ?_
      refine TL.run1 (pure_max rfl rfl) rfl ?_
      refine TL.run1 (pure_assign rfl) rfl ?_
      refine TL.nil ?_
      refine block_normal ?_
      refine then_normal ?_
      refine TC.region ?_
      refine TL.run1 (pure_add rfl rfl (mkI64 (by omega) (by omega))) rfl ?_
      refine TL.run1 (pure_move rfl) rfl ?_
      refine TL.nil ?_
      refine loop_next (k + 1) ⟨?_, by repeat (first | exact List.nil_sublist _ | exact List.Sublist.refl _ | apply List.Sublist.cons_cons | apply List.Sublist.cons)⟩ ⟨by omega, by omega⟩ (by omega)
      have hm := spTo_mono (rAt rs i) k k0 (by omega)
      rw [spTo_succ _ k k0] at hm ⊢
      rw [show max (widthN rs i.toNat) (sAt (spansR (rAt rs i)) k).2 = max (max (widthN rs i.toNat) (spTo (rAt rs i) k)) (sAt (spansR (rAt rs i)) k).2 by omega]
      repeat (first | exact Agree.nil | refine Agree.cons rfl ?_)
    · try dsimp only at hc18
      refine TC.exit ?_
      refine then_exit ?_
      refine loop_exit ?_
      refine block_here ?_
      refine block_normal ?_
      refine then_normal ?_
      refine TC.region ?_
      refine TL.run1 (pure_add rfl rfl (mkI64 (by omega) (by omega))) rfl ?_
      refine TL.run1 (pure_move rfl) rfl ?_
      refine TL.nil ?_
      refine loop_next (i + 1) ⟨?_, by repeat (first | exact List.nil_sublist _ | exact List.Sublist.refl _ | apply List.Sublist.cons_cons | apply List.Sublist.cons)⟩ ⟨by omega, by omega⟩ (by omega)
      rw [show (i + 1).toNat = i.toNat + 1 by omega]
      have hw : widthN rs (i.toNat + 1) = max (widthN rs i.toNat) (spTo (rAt rs i) k) := by
        have hkk : k = (rAt rs i).cells.length := by omega
        rw [hkk]; show max _ (spTo (rAt rs (i.toNat : Int)) _) = _; rw [show ((i.toNat : Nat) : Int) = i by omega]
      rw [hw]
      repeat (first | exact Agree.nil | refine Agree.cons rfl ?_)
  · try dsimp only at hc11
    refine TC.exit ?_
    refine then_exit ?_
    refine loop_exit ?_
    refine block_here ?_
    refine then_normal ?_
    refine TC.seq ?_
    refine TC.region ?_
    refine TL.run1 (pure_move rfl) rfl ?_
    refine TL.run1 (pure_assign rfl) rfl ?_
    refine TL.nil' ?_
    refine TC.ret ?_
    exact ret_int rfl (by rw [show i.toNat = rs.length by omega])
set_option maxRecDepth 100000 in
theorem Width_spec (rs : List RowD) (hr : TabOk rs) : Fun Try.prog 18 [.sl 6 (encRs rs)] (.v (.int .i64 (widthN rs rs.length))) := by
  have hrl0 := hr.2
  refine Fun.enter (n := 36) (rs := [.tmp 2]) Try.func18 rfl Try.ntmps18 Try.results18 rfl (fun w F => ?_)
  refine TC.seq ?_
  refine TC.region ?_
  refine TL.run1 (pure_assign rfl) rfl ?_
  refine TL.nil' ?_
  refine TC.seq ?_
  refine TC.region ?_
  refine TL.run1 (pure_assign rfl) rfl ?_
  refine TL.nil' ?_
  refine TC.seq ?_
  refine TC.seq ?_
  refine TC.region ?_
  refine TL.run1 (pure_assign rfl) rfl ?_
  refine TL.nil' ?_
  refine TC.block ?_
  refine TC.loopX (X := Int) (fun i => [(0, .sl 6 (encRs rs)), (3, .v (.int .i64 (widthN rs i.toNat))), (4, .v (.int .i64 i))]) (fun i => []) (fun i => (0 ≤ i) ∧ (i ≤ rs.length)) (fun i => (rs.length - i).toNat) (0) ⟨by skip; repeat (first | exact Agree.nil | refine Agree.cons rfl ?_), by skip; repeat (first | exact List.nil_sublist _ | exact List.Sublist.refl _ | apply List.Sublist.cons_cons | apply List.Sublist.cons)⟩ ?_ ?_
  · skip
    exact ⟨by omega, by omega⟩
  intro i
  rintro ⟨h0, h1⟩
  show TC _ _ _ (Env.of [(0, .sl 6 (encRs rs)), (3, .v (.int .i64 (widthN rs i.toNat))), (4, .v (.int .i64 i))]) []
  have hk := encRs_len rs
  refine TC.seq ?_
  refine TC.seq ?_
  refine TC.region ?_
  refine TL.run1 (pure_move rfl) rfl ?_
  refine TL.run1 (pure_move rfl) rfl ?_
  first | refine TL.run1 (pure_len Ty.sl22 rfl) rfl ?_ | refine TL.run1 (pure_len_row Ty.sl22 rfl (by repeat (first | exact List.Mem.head _ | apply List.Mem.tail))) rfl ?_ | refine TL.run1 (pure_len_nil Ty.sl22 rfl) rfl ?_
  refine TL.run1 (pure_lss rfl rfl) rfl ?_
  refine TL.nil' ?_
  first | refine TC.condD rfl (fun hc11 => ?_) (fun hc11 => ?_) | refine TC.condN rfl (fun hc11 => ?_) (fun hc11 => ?_) | refine TC.cond rfl (fun hc11 => ?_) (fun hc11 => ?_)
  · try dsimp only at hc11
    refine TC.skip' ?_
    refine TC.seq ?_
    refine TC.block ?_
    refine TC.seq ?_
    have hrow := encRs_get rs i h0 (by omega)
    have hro := hr.1 _ (rAt_mem rs i h0 (by omega))
    have hrl := hro.2.1
    have hck := encCs_len (rAt rs i).cells
    have hw : widthN rs (i.toNat + 1) = max (widthN rs i.toNat) (spTo (rAt rs i) (rAt rs i).cells.length) := by (show max _ (spTo (rAt rs (i.toNat : Int)) _) = _; rw [show ((i.toNat : Nat) : Int) = i by omega])
    refine TC.region ?_
    refine TL.run1 (pure_move rfl) rfl ?_
    refine TL.run1 (pure_move rfl) rfl ?_
    refine TL.run1 (pure_indexAddr Ty.sl22 rfl rfl (by omega) (by assumption) (List.cons_ne_nil _ _)) rfl ?_
    first | refine TL.run1 (pure_fieldAddr Ty.f36_1 rfl (.succ (.succ (.succ (.succ (.succ (.zero _)))))) (List.cons_ne_nil _ _)) rfl ?_ | refine TL.run1 (pure_fieldAddr_own Ty.f36_1 rfl) rfl ?_
    first | refine TL.run1 (pure_load1 Ty.one34 rfl) rfl ?_ | refine TL.run1 (pure_load1_own Ty.one34 rfl (by repeat (first | exact List.Mem.head _ | apply List.Mem.tail)) (by repeat (first | exact DropR.zero _ | apply DropR.succ))) rfl ?_
    first | refine TL.run1 (pure_len Ty.sl34 rfl) rfl ?_ | refine TL.run1 (pure_len_row Ty.sl34 rfl (by repeat (first | exact List.Mem.head _ | apply List.Mem.tail))) rfl ?_ | refine TL.run1 (pure_len_nil Ty.sl34 rfl) rfl ?_
    refine TL.run1 (pure_assign rfl) rfl ?_
    refine TL.nil' ?_
    refine TC.seq ?_
    refine TC.region ?_
    refine TL.run1 (pure_move rfl) rfl ?_
    refine TL.run1 (pure_gtr rfl rfl) rfl ?_
    refine TL.nil' ?_
    first | refine TC.condD rfl (fun hc21 => ?_) (fun hc21 => ?_) | refine TC.condN rfl (fun hc21 => ?_) (fun hc21 => ?_) | refine TC.cond rfl (fun hc21 => ?_) (fun hc21 => ?_)
    · try dsimp only at hc21
      refine TC.seq ?_
      have hst := spTo_succ (rAt rs i) ((((rAt rs i).cells.length : Nat) : Int) - 1) (by omega)
      rw [show ((((rAt rs i).cells.length : Nat) : Int) - 1) + 1 = (rAt rs i).cells.length by omega] at hst
      rw [← hck] at hst
      refine TC.region ?_
      refine TL.run1 (pure_move rfl) rfl ?_
      refine TL.run1 (pure_move rfl) rfl ?_
      refine TL.run1 (pure_indexAddr Ty.sl22 rfl rfl (by omega) (by assumption) (List.cons_ne_nil _ _)) rfl ?_
      first | refine TL.run1 (pure_load Ty.agg36 rfl (.succ (.succ (.succ (.succ (.succ (.succ (.zero _)))))))) rfl ?_ | refine TL.run1 (pure_load_own Ty.agg36 rfl (by repeat (first | exact List.Mem.head _ | apply List.Mem.tail)) (by repeat (first | exact DropR.zero _ | apply DropR.succ)) (.succ (.succ (.succ (.succ (.succ (.succ (.zero _)))))))) rfl ?_
      refine TL.run1 (pure_move rfl) rfl ?_
      refine TL.run1 (pure_sub rfl rfl (mkI64 (by omega) (by omega))) rfl ?_
      refine TL.run1 (pure_call (span_spec _ hro (((encCs (rAt rs i).cells).length : Int) - 1) (by omega) (by omega)) (.cons rfl (.cons rfl .nil)) Try.call19) rfl ?_
      refine TL.run1 (pure_move rfl) rfl ?_
      refine TL.run1 (pure_extract rfl rfl) rfl ?_
      refine TL.run1 (pure_extract rfl rfl) rfl ?_
      refine TL.run1 (pure_assign rfl) rfl ?_
      refine TL.run1 (pure_assign rfl) rfl ?_
      refine TL.nil' ?_
      refine TC.region ?_
      refine TL.run1 (pure_move rfl) rfl ?_
      refine TL.run1 (pure_move rfl) rfl ?_
      refine TL.run1 (pure_max rfl rfl) rfl ?_
      refine TL.run1 (pure_assign rfl) rfl ?_
      refine TL.nil ?_
      refine block_normal ?_
      refine then_normal ?_
      refine TC.region ?_
      refine TL.run1 (pure_move rfl) rfl ?_
      refine TL.run1 (pure_add rfl rfl (mkI64 (by omega) (by omega))) rfl ?_
      refine TL.run1 (pure_assign rfl) rfl ?_
      refine TL.nil ?_
      refine loop_next (i + 1) ⟨?_, by repeat (first | exact List.nil_sublist _ | exact List.Sublist.refl _ | apply List.Sublist.cons_cons | apply List.Sublist.cons)⟩ ⟨by omega, by omega⟩ (by omega)
      rw [show (i + 1).toNat = i.toNat + 1 by omega, hw]
      rw [← hck, hst]
      repeat (first | exact Agree.nil | refine Agree.cons rfl ?_)
    · try dsimp only at hc21
      refine TC.skip ?_
      refine block_normal ?_
      refine then_normal ?_
      refine TC.region ?_
      refine TL.run1 (pure_move rfl) rfl ?_
      refine TL.run1 (pure_add rfl rfl (mkI64 (by omega) (by omega))) rfl ?_
      refine TL.run1 (pure_assign rfl) rfl ?_
      refine TL.nil ?_
      refine loop_next (i + 1) ⟨?_, by repeat (first | exact List.nil_sublist _ | exact List.Sublist.refl _ | apply List.Sublist.cons_cons | apply List.Sublist.cons)⟩ ⟨by omega, by omega⟩ (by omega)
      rw [show (i + 1).toNat = i.toNat + 1 by omega, hw]
      rw [show (rAt rs i).cells.length = 0 by omega, show max (widthN rs i.toNat) (spTo (rAt rs i) ((0 : Nat) : Int)) = widthN rs i.toNat by (have := widthN_nonneg rs i.toNat; have : spTo (rAt rs i) ((0 : Nat) : Int) = 0 := rfl; omega)]
      repeat (first | exact Agree.nil | refine Agree.cons rfl ?_)
  · try dsimp only at hc11
    refine TC.exit ?_
    refine then_exit ?_
    refine loop_exit ?_
    refine block_here ?_
    refine then_normal ?_
    refine TC.seq ?_
    refine TC.region ?_
    refine TL.run1 (pure_move rfl) rfl ?_
    refine TL.run1 (pure_assign rfl) rfl ?_
    refine TL.nil' ?_
    refine TC.ret ?_
    exact ret_int rfl (by rw [show i.toNat = rs.length by omega])
set_option maxRecDepth 100000 in
theorem exists_spec (rs : List RowD) (row cell : Int) : Fun Try.prog 25 [.sl 6 (encRs rs), .v (.int .i64 row), .v (.int .i64 cell)] (.v (.bool (decide (0 ≤ row ∧ row < rs.length ∧ 0 ≤ cell ∧ cell < (rAt rs row).cells.length)))) := by
  refine Fun.enter (n := 29) (rs := [.tmp 6]) Try.func25 rfl Try.ntmps25 Try.results25 rfl (fun w F => ?_)
  have hk := encRs_len rs
  refine TC.seq ?_
  refine TC.region ?_
  refine TL.run1 (pure_assign rfl) rfl ?_
  refine TL.nil' ?_
  refine TC.regionCut [7, 8, 9, 10, 11, 12, 13, 14, 15, 16, 17, 18, 19, 20, 21, 22, 23, 24, 25, 26, 27, 28, 6] 6 (0 ≤ row ∧ row < rs.length ∧ 0 ≤ cell ∧ cell < (rAt rs row).cells.length) ?_ ?_
  · skip
    refine TL.run1 (pure_move rfl) rfl ?_
    refine TL.run1 (pure_geq rfl rfl) rfl ?_
    refine TL.run1 (pure_move rfl) rfl ?_
    first | refine TL.splitP 9 rfl (fun hg9 => ?_) (fun hg9 => ?_) | refine TL.split 9 rfl (fun hg9 => ?_) (fun hg9 => ?_)
    · try dsimp only at hg9
      refine TL.runG rfl rfl (pure_move rfl) rfl ?_
      refine TL.runG rfl rfl (pure_move rfl) rfl ?_
      first | refine TL.runG rfl rfl (pure_len Ty.sl22 rfl) rfl ?_ | refine TL.runG rfl rfl (pure_len_row Ty.sl22 rfl (by repeat (first | exact List.Mem.head _ | apply List.Mem.tail))) rfl ?_ | refine TL.runG rfl rfl (pure_len_nil Ty.sl22 rfl) rfl ?_
      refine TL.runG rfl rfl (pure_lss rfl rfl) rfl ?_
      refine TL.run1 (pure_pick_true rfl rfl) rfl ?_
      refine TL.run1 (pure_move rfl) rfl ?_
      first | refine TL.splitP 15 rfl (fun hg15 => ?_) (fun hg15 => ?_) | refine TL.split 15 rfl (fun hg15 => ?_) (fun hg15 => ?_)
      · try dsimp only at hg15
        refine TL.runG rfl rfl (pure_move rfl) rfl ?_
        refine TL.runG rfl rfl (pure_geq rfl rfl) rfl ?_
        refine TL.run1 (pure_pick_true rfl rfl) rfl ?_
        refine TL.run1 (pure_move rfl) rfl ?_
        first | refine TL.splitP 19 rfl (fun hg19 => ?_) (fun hg19 => ?_) | refine TL.split 19 rfl (fun hg19 => ?_) (fun hg19 => ?_)
        · try dsimp only at hg19
          have hrow := encRs_get rs row (by omega) (by omega)
          have hck := encCs_len (rAt rs row).cells
          refine TL.runG rfl rfl (pure_move rfl) rfl ?_
          refine TL.runG rfl rfl (pure_move rfl) rfl ?_
          refine TL.runG rfl rfl (pure_move rfl) rfl ?_
          refine TL.runG rfl rfl (pure_indexAddr Ty.sl22 rfl rfl (by omega) (by assumption) (List.cons_ne_nil _ _)) rfl ?_
          first | refine TL.runG rfl rfl (pure_fieldAddr Ty.f36_1 rfl (.succ (.succ (.succ (.succ (.succ (.zero _)))))) (List.cons_ne_nil _ _)) rfl ?_ | refine TL.runG rfl rfl (pure_fieldAddr_own Ty.f36_1 rfl) rfl ?_
          first | refine TL.runG rfl rfl (pure_load1 Ty.one34 rfl) rfl ?_ | refine TL.runG rfl rfl (pure_load1_own Ty.one34 rfl (by repeat (first | exact List.Mem.head _ | apply List.Mem.tail)) (by repeat (first | exact DropR.zero _ | apply DropR.succ))) rfl ?_
          first | refine TL.runG rfl rfl (pure_len Ty.sl34 rfl) rfl ?_ | refine TL.runG rfl rfl (pure_len_row Ty.sl34 rfl (by repeat (first | exact List.Mem.head _ | apply List.Mem.tail))) rfl ?_ | refine TL.runG rfl rfl (pure_len_nil Ty.sl34 rfl) rfl ?_
          refine TL.runG rfl rfl (pure_lss rfl rfl) rfl ?_
          refine TL.run1 (pure_pick_true rfl rfl) rfl ?_
          refine TL.run1 (pure_assign rfl) rfl ?_
          refine TL.cutEnd (by repeat (first | exact Same.refl _ _ | refine Same.put rfl ?_)) rfl ?_
          first | (simp only [decide_eq_true_eq, Bool.false_eq_true, false_iff, true_iff, iff_true, iff_false, Bool.not_eq_true]; omega) | (simp_all; done) | (simp_all; omega) | grind
        · try dsimp only at hg19
          refine TL.passG rfl rfl rfl rfl ?_
          refine TL.passG rfl rfl rfl rfl ?_
          refine TL.passG rfl rfl rfl rfl ?_
          refine TL.passG rfl rfl rfl rfl ?_
          refine TL.passG rfl rfl rfl rfl ?_
          refine TL.passG rfl rfl rfl rfl ?_
          refine TL.passG rfl rfl rfl rfl ?_
          refine TL.passG rfl rfl rfl rfl ?_
          refine TL.run1 (pure_pick_false rfl rfl) rfl ?_
          refine TL.run1 (pure_assign rfl) rfl ?_
          refine TL.cutEnd (by repeat (first | exact Same.refl _ _ | refine Same.put rfl ?_)) rfl ?_
          first | (simp only [decide_eq_true_eq, Bool.false_eq_true, false_iff, true_iff, iff_true, iff_false, Bool.not_eq_true]; omega) | (simp_all; done) | (simp_all; omega) | grind
      · try dsimp only at hg15
        refine TL.passG rfl rfl rfl rfl ?_
        refine TL.passG rfl rfl rfl rfl ?_
        refine TL.run1 (pure_pick_false rfl rfl) rfl ?_
        refine TL.run1 (pure_move rfl) rfl ?_
        refine TL.passG rfl rfl rfl rfl ?_
        refine TL.passG rfl rfl rfl rfl ?_
        refine TL.passG rfl rfl rfl rfl ?_
        refine TL.passG rfl rfl rfl rfl ?_
        refine TL.passG rfl rfl rfl rfl ?_
        refine TL.passG rfl rfl rfl rfl ?_
        refine TL.passG rfl rfl rfl rfl ?_
        refine TL.passG rfl rfl rfl rfl ?_
        refine TL.run1 (pure_pick_false rfl rfl) rfl ?_
        refine TL.run1 (pure_assign rfl) rfl ?_
        refine TL.cutEnd (by repeat (first | exact Same.refl _ _ | refine Same.put rfl ?_)) rfl ?_
        first | (simp only [decide_eq_true_eq, Bool.false_eq_true, false_iff, true_iff, iff_true, iff_false, Bool.not_eq_true]; omega) | (simp_all; done) | (simp_all; omega) | grind
    · try dsimp only at hg9
      refine TL.passG rfl rfl rfl rfl ?_
      refine TL.passG rfl rfl rfl rfl ?_
      refine TL.passG rfl rfl rfl rfl ?_
      refine TL.passG rfl rfl rfl rfl ?_
      refine TL.run1 (pure_pick_false rfl rfl) rfl ?_
      refine TL.run1 (pure_move rfl) rfl ?_
      refine TL.passG rfl rfl rfl rfl ?_
      refine TL.passG rfl rfl rfl rfl ?_
      refine TL.run1 (pure_pick_false rfl rfl) rfl ?_
      refine TL.run1 (pure_move rfl) rfl ?_
      refine TL.passG rfl rfl rfl rfl ?_
      refine TL.passG rfl rfl rfl rfl ?_
      refine TL.passG rfl rfl rfl rfl ?_
      refine TL.passG rfl rfl rfl rfl ?_
      refine TL.passG rfl rfl rfl rfl ?_
      refine TL.passG rfl rfl rfl rfl ?_
      refine TL.passG rfl rfl rfl rfl ?_
      refine TL.passG rfl rfl rfl rfl ?_
      refine TL.run1 (pure_pick_false rfl rfl) rfl ?_
      refine TL.run1 (pure_assign rfl) rfl ?_
      refine TL.cutEnd (by repeat (first | exact Same.refl _ _ | refine Same.put rfl ?_)) rfl ?_
      first | (simp only [decide_eq_true_eq, Bool.false_eq_true, false_iff, true_iff, iff_true, iff_false, Bool.not_eq_true]; omega) | (simp_all; done) | (simp_all; omega) | grind
  refine TC.ret ?_
  exact ret_bool rfl rfl

/-! ### small tables -/
def OkP (ps : List (Int × Int)) : Prop := ∀ j : Int, 1 ≤ j → j < ps.length → (pAt ps (j - 1)).1 < (pAt ps j).1
def OkC (c : CellD) : Prop := c.props.length ≤ 8 ∧ c.flow.length ≤ 8 ∧ OkP c.props
def OkR (r : RowD) : Prop := r.cells.length ≤ 40 ∧ ∀ k : Int, 0 ≤ k → k < r.cells.length → OkC (cAt r.cells k)
def SmallT (rs : List RowD) : Prop := rs.length ≤ 10 ∧ ∀ i : Int, 0 ≤ i → i < rs.length → OkR (rAt rs i)
open Classical in
noncomputable def smallB (rs : List RowD) : Bool := decide (SmallT rs)
theorem smallB_iff (rs : List RowD) : smallB rs = true ↔ SmallT rs := by unfold smallB; simp
theorem OkP.inc {ps : List (Int × Int)} (h : OkP ps) : Inc (keysP ps) := by
  have key : ∀ (ps : List (Int × Int)), (∀ n : Nat, n + 1 < ps.length → (ps.getD n (0, 0)).1 < (ps.getD (n + 1) (0, 0)).1) → Inc (keysP ps) := by
    intro ps
    induction ps with
    | nil => intro _; exact List.Pairwise.nil
    | cons p ps ih =>
      intro h
      have ih := ih (fun n hn => by have := h (n + 1) (by simpa using hn); simpa using this)
      refine List.Pairwise.cons ?_ ih
      cases ps with
      | nil => intro x hx; simp at hx
      | cons q qs =>
        have h0 := h 0 (by simp)
        simp only [List.getD_cons_zero, List.getD_cons_succ] at h0
        intro x hx
        rcases List.mem_cons.1 hx with rfl | hx
        · exact h0
        · exact Int.lt_trans h0 ((List.pairwise_cons.1 ih).1 x hx)
  refine key ps fun n hn => ?_
  have := h (n + 1) (by omega) (by omega)
  unfold pAt at this
  rw [show ((n : Int) + 1 - 1).toNat = n by omega, show ((n : Int) + 1).toNat = n + 1 by omega] at this
  exact this
theorem SmallT.ok {rs : List RowD} (h : SmallT rs) : TabOk rs := by
  refine ⟨fun r hr => ?_, by have := h.1; omega⟩
  obtain ⟨i, hi, rfl⟩ := List.mem_iff_getElem.1 hr
  have h1 := h.2 i (by omega) (by omega)
  have e : rAt rs i = rs[i] := by simp [rAt, hi]
  rw [e] at h1
  refine ⟨fun c hc => ?_, by have := h1.1; omega, by have := h1.1; omega⟩
  obtain ⟨k, hk, rfl⟩ := List.mem_iff_getElem.1 hc
  have h2 := h1.2 k (by omega) (by omega)
  have e2 : cAt rs[i].cells k = rs[i].cells[k] := by simp [cAt, hk]
  rw [e2] at h2
  exact ⟨h2.2.2.inc, by have := h2.1; omega⟩
set_option maxRecDepth 100000 in
theorem Small_spec (rs : List RowD) : Fun Try.prog 13 [.sl 6 (encRs rs)] (.v (.bool (smallB rs))) := by
  refine Fun.enter (n := 77) (rs := [.tmp 2]) Try.func13 rfl Try.ntmps13 Try.results13 rfl (fun w F => ?_)
  have hk := encRs_len rs
  refine TC.seq ?_
  refine TC.region ?_
  refine TL.run1 (pure_assign rfl) rfl ?_
  refine TL.nil' ?_
  refine TC.seq ?_
  refine TC.seq ?_
  refine TC.region ?_
  refine TL.run1 (pure_move rfl) rfl ?_
  first | refine TL.run1 (pure_len Ty.sl22 rfl) rfl ?_ | refine TL.run1 (pure_len_row Ty.sl22 rfl (by repeat (first | exact List.Mem.head _ | apply List.Mem.tail))) rfl ?_ | refine TL.run1 (pure_len_nil Ty.sl22 rfl) rfl ?_
  refine TL.run1 (pure_gtr rfl rfl) rfl ?_
  refine TL.nil' ?_
  first | refine TC.condD rfl (fun hc9 => ?_) (fun hc9 => ?_) | refine TC.condN rfl (fun hc9 => ?_) (fun hc9 => ?_) | refine TC.cond rfl (fun hc9 => ?_) (fun hc9 => ?_)
  · try dsimp only at hc9
    refine TC.seq ?_
    refine TC.region ?_
    refine TL.run1 (pure_assign rfl) rfl ?_
    refine TL.nil' ?_
    refine TC.ret ?_
    refine then_ret ?_
    exact ret_bool rfl (by (symm; rw [Bool.eq_false_iff]; intro hb; have hS := (smallB_iff rs).1 hb; have := hS.1; omega))
  · try dsimp only at hc9
    refine TC.skip' ?_
    refine TC.seq ?_
    refine TC.seq ?_
    refine TC.region ?_
    refine TL.run1 (pure_assign rfl) rfl ?_
    refine TL.nil' ?_
    refine TC.block ?_
    refine TC.loopX (X := Int) (fun i => [(0, .sl 6 (encRs rs)), (3, .v (.int .i64 i))]) (fun i => []) (fun i => (0 ≤ i) ∧ (i ≤ rs.length) ∧ (∀ i0 : Int, 0 ≤ i0 → i0 < i → OkR (rAt rs i0))) (fun i => (rs.length - i).toNat) (0) ⟨by skip; repeat (first | exact Agree.nil | refine Agree.cons rfl ?_), by skip; repeat (first | exact List.nil_sublist _ | exact List.Sublist.refl _ | apply List.Sublist.cons_cons | apply List.Sublist.cons)⟩ ?_ ?_
    · skip
      exact ⟨by omega, by omega, fun i0 _ _ => by omega⟩
    intro i
    rintro ⟨h0, h1, h2⟩
    show TC _ _ _ (Env.of [(0, .sl 6 (encRs rs)), (3, .v (.int .i64 i))]) []
    have hk := encRs_len rs
    refine TC.seq ?_
    refine TC.seq ?_
    refine TC.region ?_
    refine TL.run1 (pure_move rfl) rfl ?_
    refine TL.run1 (pure_move rfl) rfl ?_
    first | refine TL.run1 (pure_len Ty.sl22 rfl) rfl ?_ | refine TL.run1 (pure_len_row Ty.sl22 rfl (by repeat (first | exact List.Mem.head _ | apply List.Mem.tail))) rfl ?_ | refine TL.run1 (pure_len_nil Ty.sl22 rfl) rfl ?_
    refine TL.run1 (pure_lss rfl rfl) rfl ?_
    refine TL.nil' ?_
    first | refine TC.condD rfl (fun hc13 => ?_) (fun hc13 => ?_) | refine TC.condN rfl (fun hc13 => ?_) (fun hc13 => ?_) | refine TC.cond rfl (fun hc13 => ?_) (fun hc13 => ?_)
    · try dsimp only at hc13
      refine TC.skip' ?_
      refine TC.seq ?_
      refine TC.block ?_
      refine TC.seq ?_
      refine TC.seq ?_
      have hrow := encRs_get rs i h0 (by omega)
      have hck := encCs_len (rAt rs i).cells
      refine TC.region ?_
      refine TL.run1 (pure_move rfl) rfl ?_
      refine TL.run1 (pure_move rfl) rfl ?_
      refine TL.run1 (pure_indexAddr Ty.sl22 rfl rfl (by omega) (by assumption) (List.cons_ne_nil _ _)) rfl ?_
      first | refine TL.run1 (pure_fieldAddr Ty.f36_1 rfl (.succ (.succ (.succ (.succ (.succ (.zero _)))))) (List.cons_ne_nil _ _)) rfl ?_ | refine TL.run1 (pure_fieldAddr_own Ty.f36_1 rfl) rfl ?_
      first | refine TL.run1 (pure_load1 Ty.one34 rfl) rfl ?_ | refine TL.run1 (pure_load1_own Ty.one34 rfl (by repeat (first | exact List.Mem.head _ | apply List.Mem.tail)) (by repeat (first | exact DropR.zero _ | apply DropR.succ))) rfl ?_
      first | refine TL.run1 (pure_len Ty.sl34 rfl) rfl ?_ | refine TL.run1 (pure_len_row Ty.sl34 rfl (by repeat (first | exact List.Mem.head _ | apply List.Mem.tail))) rfl ?_ | refine TL.run1 (pure_len_nil Ty.sl34 rfl) rfl ?_
      refine TL.run1 (pure_gtr rfl rfl) rfl ?_
      refine TL.nil' ?_
      first | refine TC.condD rfl (fun hc22 => ?_) (fun hc22 => ?_) | refine TC.condN rfl (fun hc22 => ?_) (fun hc22 => ?_) | refine TC.cond rfl (fun hc22 => ?_) (fun hc22 => ?_)
      · try dsimp only at hc22
        refine TC.seq ?_
        refine TC.region ?_
        refine TL.run1 (pure_assign rfl) rfl ?_
        refine TL.nil' ?_
        refine TC.ret ?_
        refine then_ret ?_
        refine block_ret ?_
        refine then_ret ?_
        refine loop_ret ?_
        refine block_ret ?_
        refine then_ret ?_
        exact ret_bool rfl (by (symm; rw [Bool.eq_false_iff]; intro hb; have hS := (smallB_iff rs).1 hb; have := (hS.2 i h0 (by omega)).1; omega))
      · try dsimp only at hc22
        refine TC.skip' ?_
        refine TC.seq ?_
        refine TC.region ?_
        refine TL.run1 (pure_assign rfl) rfl ?_
        refine TL.nil' ?_
        refine TC.block ?_
        refine TC.loopX (X := Int) (fun k => [(0, .sl 6 (encRs rs)), (3, .v (.int .i64 i)), (4, .v (.int .i64 k))]) (fun k => []) (fun k => (0 ≤ k) ∧ (k ≤ (rAt rs i).cells.length) ∧ (∀ k0 : Int, 0 ≤ k0 → k0 < k → OkC (cAt (rAt rs i).cells k0))) (fun k => ((rAt rs i).cells.length - k).toNat) (0) ⟨by skip; repeat (first | exact Agree.nil | refine Agree.cons rfl ?_), by skip; repeat (first | exact List.nil_sublist _ | exact List.Sublist.refl _ | apply List.Sublist.cons_cons | apply List.Sublist.cons)⟩ ?_ ?_
        · skip
          exact ⟨by omega, by omega, fun k0 _ _ => by omega⟩
        intro k
        rintro ⟨k0, k1, k2⟩
        show TC _ _ _ (Env.of [(0, .sl 6 (encRs rs)), (3, .v (.int .i64 i)), (4, .v (.int .i64 k))]) []
        refine TC.seq ?_
        refine TC.seq ?_
        refine TC.region ?_
        refine TL.run1 (pure_move rfl) rfl ?_
        refine TL.run1 (pure_move rfl) rfl ?_
        refine TL.run1 (pure_move rfl) rfl ?_
        refine TL.run1 (pure_indexAddr Ty.sl22 rfl rfl (by omega) (by assumption) (List.cons_ne_nil _ _)) rfl ?_
        first | refine TL.run1 (pure_fieldAddr Ty.f36_1 rfl (.succ (.succ (.succ (.succ (.succ (.zero _)))))) (List.cons_ne_nil _ _)) rfl ?_ | refine TL.run1 (pure_fieldAddr_own Ty.f36_1 rfl) rfl ?_
        first | refine TL.run1 (pure_load1 Ty.one34 rfl) rfl ?_ | refine TL.run1 (pure_load1_own Ty.one34 rfl (by repeat (first | exact List.Mem.head _ | apply List.Mem.tail)) (by repeat (first | exact DropR.zero _ | apply DropR.succ))) rfl ?_
        first | refine TL.run1 (pure_len Ty.sl34 rfl) rfl ?_ | refine TL.run1 (pure_len_row Ty.sl34 rfl (by repeat (first | exact List.Mem.head _ | apply List.Mem.tail))) rfl ?_ | refine TL.run1 (pure_len_nil Ty.sl34 rfl) rfl ?_
        refine TL.run1 (pure_lss rfl rfl) rfl ?_
        refine TL.nil' ?_
        first | refine TC.condD rfl (fun hc30 => ?_) (fun hc30 => ?_) | refine TC.condN rfl (fun hc30 => ?_) (fun hc30 => ?_) | refine TC.cond rfl (fun hc30 => ?_) (fun hc30 => ?_)
        · try dsimp only at hc30
          refine TC.skip' ?_
          refine TC.seq ?_
          refine TC.block ?_
          refine TC.seq ?_
          have hcell := encCs_get (rAt rs i).cells k k0 (by omega)
          have hpk := encP_len (cAt (rAt rs i).cells k).props
          refine TC.region ?_
          refine TL.run1 (pure_move rfl) rfl ?_
          refine TL.run1 (pure_move rfl) rfl ?_
          refine TL.run1 (pure_indexAddr Ty.sl22 rfl rfl (by omega) (by assumption) (List.cons_ne_nil _ _)) rfl ?_
          first | refine TL.run1 (pure_fieldAddr Ty.f36_1 rfl (.succ (.succ (.succ (.succ (.succ (.zero _)))))) (List.cons_ne_nil _ _)) rfl ?_ | refine TL.run1 (pure_fieldAddr_own Ty.f36_1 rfl) rfl ?_
          first | refine TL.run1 (pure_load1 Ty.one34 rfl) rfl ?_ | refine TL.run1 (pure_load1_own Ty.one34 rfl (by repeat (first | exact List.Mem.head _ | apply List.Mem.tail)) (by repeat (first | exact DropR.zero _ | apply DropR.succ))) rfl ?_
          refine TL.run1 (pure_move rfl) rfl ?_
          refine TL.run1 (pure_indexAddr Ty.sl34 rfl rfl (by omega) (by assumption) (List.cons_ne_nil _ _)) rfl ?_
          first | refine TL.run1 (pure_fieldAddr Ty.f74_1 rfl (.succ (.zero _)) (List.cons_ne_nil _ _)) rfl ?_ | refine TL.run1 (pure_fieldAddr_own Ty.f74_1 rfl) rfl ?_
          first | refine TL.run1 (pure_fieldAddr Ty.f33_0 rfl (.zero _) (List.cons_ne_nil _ _)) rfl ?_ | refine TL.run1 (pure_fieldAddr_own Ty.f33_0 rfl) rfl ?_
          first | refine TL.run1 (pure_load1 Ty.one27 rfl) rfl ?_ | refine TL.run1 (pure_load1_own Ty.one27 rfl (by repeat (first | exact List.Mem.head _ | apply List.Mem.tail)) (by repeat (first | exact DropR.zero _ | apply DropR.succ))) rfl ?_
          refine TL.run1 (pure_assign rfl) rfl ?_
          refine TL.nil' ?_
          refine TC.seq ?_
          refine TC.regionCut [43, 44, 45, 46, 47, 48, 49, 50, 51, 52, 53, 54, 55, 56, 57, 58] 58 ((cAt (rAt rs i).cells k).props.length > 8 ∨ (cAt (rAt rs i).cells k).flow.length > 8) ?_ ?_
          · skip
            refine TL.run1 (pure_move rfl) rfl ?_
            first | refine TL.run1 (pure_len Ty.sl27 rfl) rfl ?_ | refine TL.run1 (pure_len_row Ty.sl27 rfl (by repeat (first | exact List.Mem.head _ | apply List.Mem.tail))) rfl ?_ | refine TL.run1 (pure_len_nil Ty.sl27 rfl) rfl ?_
            refine TL.run1 (pure_gtr rfl rfl) rfl ?_
            refine TL.run1 (pure_move rfl) rfl ?_
            first | refine TL.splitP 46 rfl (fun hg46 => ?_) (fun hg46 => ?_) | refine TL.split 46 rfl (fun hg46 => ?_) (fun hg46 => ?_)
            · try dsimp only at hg46
              refine TL.passG rfl rfl rfl rfl ?_
              refine TL.passG rfl rfl rfl rfl ?_
              refine TL.passG rfl rfl rfl rfl ?_
              refine TL.passG rfl rfl rfl rfl ?_
              refine TL.passG rfl rfl rfl rfl ?_
              refine TL.passG rfl rfl rfl rfl ?_
              refine TL.passG rfl rfl rfl rfl ?_
              refine TL.passG rfl rfl rfl rfl ?_
              refine TL.passG rfl rfl rfl rfl ?_
              refine TL.passG rfl rfl rfl rfl ?_
              refine TL.passG rfl rfl rfl rfl ?_
              refine TL.run1 (pure_pick_true rfl rfl) rfl ?_
              refine TL.cutEnd (by repeat (first | exact Same.refl _ _ | refine Same.put rfl ?_)) rfl ?_
              first | (simp only [decide_eq_true_eq, Bool.false_eq_true, false_iff, true_iff, iff_true, iff_false, Bool.not_eq_true]; omega) | (simp_all; done) | (simp_all; omega) | grind
            · try dsimp only at hg46
              refine TL.runG rfl rfl (pure_move rfl) rfl ?_
              refine TL.runG rfl rfl (pure_move rfl) rfl ?_
              refine TL.runG rfl rfl (pure_indexAddr Ty.sl22 rfl rfl (by omega) (by assumption) (List.cons_ne_nil _ _)) rfl ?_
              first | refine TL.runG rfl rfl (pure_fieldAddr Ty.f36_1 rfl (.succ (.succ (.succ (.succ (.succ (.zero _)))))) (List.cons_ne_nil _ _)) rfl ?_ | refine TL.runG rfl rfl (pure_fieldAddr_own Ty.f36_1 rfl) rfl ?_
              first | refine TL.runG rfl rfl (pure_load1 Ty.one34 rfl) rfl ?_ | refine TL.runG rfl rfl (pure_load1_own Ty.one34 rfl (by repeat (first | exact List.Mem.head _ | apply List.Mem.tail)) (by repeat (first | exact DropR.zero _ | apply DropR.succ))) rfl ?_
              refine TL.runG rfl rfl (pure_move rfl) rfl ?_
              refine TL.runG rfl rfl (pure_indexAddr Ty.sl34 rfl rfl (by omega) (by assumption) (List.cons_ne_nil _ _)) rfl ?_
              first | refine TL.runG rfl rfl (pure_fieldAddr Ty.f74_2 rfl (.succ (.succ (.succ (.succ (.succ (.succ (.zero _))))))) (List.cons_ne_nil _ _)) rfl ?_ | refine TL.runG rfl rfl (pure_fieldAddr_own Ty.f74_2 rfl) rfl ?_
              first | refine TL.runG rfl rfl (pure_load1 Ty.one72 rfl) rfl ?_ | refine TL.runG rfl rfl (pure_load1_own Ty.one72 rfl (by repeat (first | exact List.Mem.head _ | apply List.Mem.tail)) (by repeat (first | exact DropR.zero _ | apply DropR.succ))) rfl ?_
              first | refine TL.runG rfl rfl (pure_len Ty.sl72 rfl) rfl ?_ | refine TL.runG rfl rfl (pure_len_row Ty.sl72 rfl (by repeat (first | exact List.Mem.head _ | apply List.Mem.tail))) rfl ?_ | refine TL.runG rfl rfl (pure_len_nil Ty.sl72 rfl) rfl ?_
              refine TL.runG rfl rfl (pure_gtr rfl rfl) rfl ?_
              refine TL.run1 (pure_pick_false rfl rfl) rfl ?_
              refine TL.cutEnd (by repeat (first | exact Same.refl _ _ | refine Same.put rfl ?_)) rfl ?_
              first | (simp only [decide_eq_true_eq, Bool.false_eq_true, false_iff, true_iff, iff_true, iff_false, Bool.not_eq_true]; omega) | (simp_all; done) | (simp_all; omega) | grind
          first | refine TC.condD rfl (fun hc58 => ?_) (fun hc58 => ?_) | refine TC.condN rfl (fun hc58 => ?_) (fun hc58 => ?_) | refine TC.cond rfl (fun hc58 => ?_) (fun hc58 => ?_)
          · try dsimp only at hc58
            refine TC.seq ?_
            refine TC.region ?_
            refine TL.run1 (pure_assign rfl) rfl ?_
            refine TL.nil' ?_
            refine TC.ret ?_
            refine then_ret ?_
            refine block_ret ?_
            refine then_ret ?_
            refine loop_ret ?_
            refine block_ret ?_
            refine block_ret ?_
            refine then_ret ?_
            refine loop_ret ?_
            refine block_ret ?_
            refine then_ret ?_
            exact ret_bool rfl (by (symm; rw [Bool.eq_false_iff]; intro hb; have hS := (smallB_iff rs).1 hb; have := (hS.2 i h0 (by omega)).2 k k0 (by omega); have h3 := this.1; have h4 := this.2.1; omega))
          · try dsimp only at hc58
            refine TC.skip' ?_
            refine TC.seq ?_
            refine TC.region ?_
            refine TL.run1 (pure_assign rfl) rfl ?_
            refine TL.nil' ?_
            refine TC.block ?_
            refine TC.loopX (X := Int) (fun j => [(0, .sl 6 (encRs rs)), (3, .v (.int .i64 i)), (4, .v (.int .i64 k)), (5, .sl 2 (encP (cAt (rAt rs i).cells k).props)), (6, .v (.int .i64 j))]) (fun j => []) (fun j => (1 ≤ j) ∧ (j ≤ max 1 (cAt (rAt rs i).cells k).props.length) ∧ (∀ j0 : Int, 1 ≤ j0 → j0 < j → (pAt (cAt (rAt rs i).cells k).props (j0 - 1)).1 < (pAt (cAt (rAt rs i).cells k).props j0).1)) (fun j => ((cAt (rAt rs i).cells k).props.length - j).toNat) (1) ⟨by skip; repeat (first | exact Agree.nil | refine Agree.cons rfl ?_), by skip; repeat (first | exact List.nil_sublist _ | exact List.Sublist.refl _ | apply List.Sublist.cons_cons | apply List.Sublist.cons)⟩ ?_ ?_
            · skip
              exact ⟨by omega, by omega, fun j0 _ _ => by omega⟩
            intro j
            rintro ⟨j0, j1, j2⟩
            show TC _ _ _ (Env.of [(0, .sl 6 (encRs rs)), (3, .v (.int .i64 i)), (4, .v (.int .i64 k)), (5, .sl 2 (encP (cAt (rAt rs i).cells k).props)), (6, .v (.int .i64 j))]) []
            refine TC.seq ?_
            refine TC.seq ?_
            refine TC.region ?_
            refine TL.run1 (pure_move rfl) rfl ?_
            refine TL.run1 (pure_move rfl) rfl ?_
            first | refine TL.run1 (pure_len Ty.sl27 rfl) rfl ?_ | refine TL.run1 (pure_len_row Ty.sl27 rfl (by repeat (first | exact List.Mem.head _ | apply List.Mem.tail))) rfl ?_ | refine TL.run1 (pure_len_nil Ty.sl27 rfl) rfl ?_
            refine TL.run1 (pure_lss rfl rfl) rfl ?_
            refine TL.nil' ?_
            first | refine TC.condD rfl (fun hc62 => ?_) (fun hc62 => ?_) | refine TC.condN rfl (fun hc62 => ?_) (fun hc62 => ?_) | refine TC.cond rfl (fun hc62 => ?_) (fun hc62 => ?_)
            · try dsimp only at hc62
              refine TC.skip' ?_
              refine TC.seq ?_
              refine TC.block ?_
              refine TC.seq ?_
              have hp1 := encP_get (cAt (rAt rs i).cells k).props j (by omega) (by omega)
              have hp2 := encP_get (cAt (rAt rs i).cells k).props (j - 1) (by omega) (by omega)
              refine TC.draw Ty.follows (by kernel_rfl) ?_
              refine TD.run1 (pure_move rfl) rfl ?_
              refine TD.run1 (pure_move rfl) rfl ?_
              refine TD.run1 (pure_indexAddr Ty.sl27 rfl rfl (by omega) (by assumption) (List.cons_ne_nil _ _)) rfl ?_
              first | refine TD.run1 (pure_fieldAddr Ty.f77_0 rfl (.zero _) (List.cons_ne_nil _ _)) rfl ?_ | refine TD.run1 (pure_fieldAddr_own Ty.f77_0 rfl) rfl ?_
              first | refine TD.run1 (pure_load1 Ty.one3 rfl) rfl ?_ | refine TD.run1 (pure_load1_own Ty.one3 rfl (by repeat (first | exact List.Mem.head _ | apply List.Mem.tail)) (by repeat (first | exact DropR.zero _ | apply DropR.succ))) rfl ?_
              refine TD.run1 (pure_move rfl) rfl ?_
              refine TD.run1 (pure_move rfl) rfl ?_
              refine TD.run1 (pure_sub rfl rfl (mkI64 (by omega) (by omega))) rfl ?_
              refine TD.run1 (pure_indexAddr Ty.sl27 rfl rfl (by omega) (by assumption) (List.cons_ne_nil _ _)) rfl ?_
              first | refine TD.run1 (pure_fieldAddr Ty.f77_0 rfl (.zero _) (List.cons_ne_nil _ _)) rfl ?_ | refine TD.run1 (pure_fieldAddr_own Ty.f77_0 rfl) rfl ?_
              first | refine TD.run1 (pure_load1 Ty.one3 rfl) rfl ?_ | refine TD.run1 (pure_load1_own Ty.one3 rfl (by repeat (first | exact List.Mem.head _ | apply List.Mem.tail)) (by repeat (first | exact DropR.zero _ | apply DropR.succ))) rfl ?_
              refine TD.run1 (pure_leq rfl rfl) rfl ?_
              refine TD.nil' ?_
              first | refine TC.condD rfl (fun hc76 => ?_) (fun hc76 => ?_) | refine TC.condN rfl (fun hc76 => ?_) (fun hc76 => ?_) | refine TC.cond rfl (fun hc76 => ?_) (fun hc76 => ?_)
              · try dsimp only at hc76
                refine TC.seq ?_
                refine TC.region ?_
                refine TL.run1 (pure_assign rfl) rfl ?_
                refine TL.nil' ?_
                refine TC.ret ?_
                refine block_ret ?_
                refine then_ret ?_
                refine loop_ret ?_
                refine block_ret ?_
                refine block_ret ?_
                refine then_ret ?_
                refine loop_ret ?_
                refine block_ret ?_
                refine block_ret ?_
                refine then_ret ?_
                refine loop_ret ?_
                refine block_ret ?_
                refine then_ret ?_
                exact ret_bool rfl (by (symm; rw [Bool.eq_false_iff]; intro hb; have hS := (smallB_iff rs).1 hb; have := ((hS.2 i h0 (by omega)).2 k k0 (by omega)).2.2 j (by omega) (by omega); omega))
              · try dsimp only at hc76
                refine TC.skip ?_
                refine block_normal ?_
                refine then_normal ?_
                refine TC.region ?_
                refine TL.run1 (pure_move rfl) rfl ?_
                refine TL.run1 (pure_add rfl rfl (mkI64 (by omega) (by omega))) rfl ?_
                refine TL.run1 (pure_assign rfl) rfl ?_
                refine TL.nil ?_
                refine loop_next (j + 1) ⟨by repeat (first | exact Agree.nil | refine Agree.cons rfl ?_), by repeat (first | exact List.nil_sublist _ | exact List.Sublist.refl _ | apply List.Sublist.cons_cons | apply List.Sublist.cons)⟩ ⟨by omega, by omega, fun j0 a b => ?_⟩ (by omega)
                rcases Int.lt_or_eq_of_le (show j0 ≤ j by omega) with h | h
                · exact j2 j0 a h
                · rw [h]; omega
            · try dsimp only at hc62
              refine TC.exit ?_
              refine then_exit ?_
              refine loop_exit ?_
              refine block_here ?_
              refine block_normal ?_
              refine then_normal ?_
              refine TC.region ?_
              refine TL.run1 (pure_move rfl) rfl ?_
              refine TL.run1 (pure_add rfl rfl (mkI64 (by omega) (by omega))) rfl ?_
              refine TL.run1 (pure_assign rfl) rfl ?_
              refine TL.nil ?_
              refine loop_next (k + 1) ⟨by repeat (first | exact Agree.nil | refine Agree.cons rfl ?_), by repeat (first | exact List.nil_sublist _ | exact List.Sublist.refl _ | apply List.Sublist.cons_cons | apply List.Sublist.cons)⟩ ⟨by omega, by omega, fun k0 a b => ?_⟩ (by omega)
              rcases Int.lt_or_eq_of_le (show k0 ≤ k by omega) with h | h
              · exact k2 k0 a h
              · rw [h]; exact ⟨by omega, by omega, fun j0 a b => j2 j0 a (by omega)⟩
        · try dsimp only at hc30
          refine TC.exit ?_
          refine then_exit ?_
          refine loop_exit ?_
          refine block_here ?_
          refine block_normal ?_
          refine then_normal ?_
          refine TC.region ?_
          refine TL.run1 (pure_move rfl) rfl ?_
          refine TL.run1 (pure_add rfl rfl (mkI64 (by omega) (by omega))) rfl ?_
          refine TL.run1 (pure_assign rfl) rfl ?_
          refine TL.nil ?_
          refine loop_next (i + 1) ⟨by repeat (first | exact Agree.nil | refine Agree.cons rfl ?_), by repeat (first | exact List.nil_sublist _ | exact List.Sublist.refl _ | apply List.Sublist.cons_cons | apply List.Sublist.cons)⟩ ⟨by omega, by omega, fun i0 a b => ?_⟩ (by omega)
          rcases Int.lt_or_eq_of_le (show i0 ≤ i by omega) with h | h
          · exact h2 i0 a h
          · rw [h]; exact ⟨by omega, fun k0 a b => k2 k0 a (by omega)⟩
    · try dsimp only at hc13
      refine TC.exit ?_
      refine then_exit ?_
      refine loop_exit ?_
      refine block_here ?_
      refine then_normal ?_
      refine TC.seq ?_
      refine TC.region ?_
      refine TL.run1 (pure_assign rfl) rfl ?_
      refine TL.nil' ?_
      refine TC.ret ?_
      exact ret_bool rfl ((smallB_iff rs).2 ⟨by omega, fun i0 a b => h2 i0 a (by omega)⟩).symm

/-! ### the reference's Set -/
def setStep (key value : Int) (s : List (Int × Int) × Bool) (p : Int × Int) : List (Int × Int) × Bool :=
  let s1 := if s.2 = false ∧ p.1 ≥ key then (s.1 ++ [(key, value)], true) else s
  if p.1 ≠ key then (s1.1 ++ [p], s1.2) else s1
def setTo (ps : List (Int × Int)) (key value nn : Int) : Nat → List (Int × Int) × Bool
  | 0 => ([], decide (value = nn))
  | i + 1 => setStep key value (setTo ps key value nn i) (pAt ps i)
def setR (ps : List (Int × Int)) (key value nn : Int) : List (Int × Int) :=
  if (setTo ps key value nn ps.length).2 = false then (setTo ps key value nn ps.length).1 ++ [(key, value)] else (setTo ps key value nn ps.length).1
theorem setTo_len (ps : List (Int × Int)) (key value nn : Int) : ∀ i, (setTo ps key value nn i).1.length ≤ 2 * i
  | 0 => by simp [setTo]
  | i + 1 => by
    have := setTo_len ps key value nn i
    unfold setTo setStep
    dsimp only
    split <;> split <;> simp <;> omega
theorem encP_snoc (l : List (Int × Int)) (a b : Int) : encP (l ++ [(a, b)]) = encP l ++ [[.v (.int .i64 a), .v (.int .i64 b)]] := by simp [encP]
theorem encP_each (l : List (Int × Int)) : ∀ x ∈ encP l, x.length = 2 := by
  intro x hx; simp only [encP, List.mem_map] at hx; obtain ⟨s, _, rfl⟩ := hx; rfl
set_option maxRecDepth 100000 in
theorem set_spec (ps : List (Int × Int)) (key value nn : Int) (hl : ps.length ≤ 1000) : Fun Try.prog 49 [.sl 2 (encP ps), .v (.int .i64 key), .v (.int .i64 value), .v (.int .i64 nn)] (.sl 2 (encP (setR ps key value nn))) := by
  refine Fun.enterF (n := 61) (rs := [.tmp 8]) Try.func49 rfl Try.ntmps49 Try.results49 rfl (fun w F => ?_)
  refine TC.seq ?_
  refine TC.region ?_
  refine TL.run1 (pure_assign rfl) rfl ?_
  refine TL.nil' ?_
  refine TC.seq ?_
  refine TC.region ?_
  refine TL.run1 (pure_assign rfl) rfl ?_
  refine TL.nil' ?_
  refine TC.seq ?_
  refine TC.region ?_
  refine TL.run1 (pure_move rfl) rfl ?_
  refine TL.run1 (pure_move rfl) rfl ?_
  refine TL.run1 (pure_eql rfl rfl) rfl ?_
  refine TL.run1 (pure_assign rfl) rfl ?_
  refine TL.nil' ?_
  refine TC.seq ?_
  refine TC.seq ?_
  refine TC.nilrow 77 2 ?_
  refine TC.region ?_
  refine TL.run1 (pure_assign rfl) rfl ?_
  refine TL.nil' ?_
  refine TC.block ?_
  refine TC.loopX (X := Int × Value) (fun (i, v) => [(0, .sl 2 (encP ps)), (1, .v (.int .i64 key)), (2, .v (.int .i64 value)), (9, .v v), (10, .v (.bool (setTo ps key value nn i.toNat).2)), (11, .v (.int .i64 i))]) (fun (i, v) => [.row v 77 2 (encP (setTo ps key value nn i.toNat).1)]) (fun (i, v) => (0 ≤ i) ∧ (i ≤ ps.length)) (fun (i, v) => (ps.length - i).toNat) (0, .slice none 0 0) ⟨by skip; repeat (first | exact Agree.nil | refine Agree.cons rfl ?_), by skip; repeat (first | exact List.nil_sublist _ | exact List.Sublist.refl _ | apply List.Sublist.cons_cons | apply List.Sublist.cons)⟩ ?_ ?_
  · skip
    exact ⟨by omega, by omega⟩
  rintro ⟨i, v⟩
  rintro ⟨h0, h1⟩
  show TC _ _ _ (Env.of [(0, .sl 2 (encP ps)), (1, .v (.int .i64 key)), (2, .v (.int .i64 value)), (9, .v v), (10, .v (.bool (setTo ps key value nn i.toNat).2)), (11, .v (.int .i64 i))]) [.row v 77 2 (encP (setTo ps key value nn i.toNat).1)]
  have hk := encP_len ps
  have hsl := setTo_len ps key value nn i.toNat
  have hsk := encP_len (setTo ps key value nn i.toNat).1
  refine TC.seq ?_
  refine TC.seq ?_
  refine TC.region ?_
  refine TL.run1 (pure_move rfl) rfl ?_
  refine TL.run1 (pure_move rfl) rfl ?_
  first | refine TL.run1 (pure_len Ty.sl27 rfl) rfl ?_ | refine TL.run1 (pure_len_row Ty.sl27 rfl (by repeat (first | exact List.Mem.head _ | apply List.Mem.tail))) rfl ?_ | refine TL.run1 (pure_len_nil Ty.sl27 rfl) rfl ?_
  refine TL.run1 (pure_lss rfl rfl) rfl ?_
  refine TL.nil' ?_
  first | refine TC.condD rfl (fun hc18 => ?_) (fun hc18 => ?_) | refine TC.condN rfl (fun hc18 => ?_) (fun hc18 => ?_) | refine TC.cond rfl (fun hc18 => ?_) (fun hc18 => ?_)
  · try dsimp only at hc18
    refine TC.skip' ?_
    refine TC.seq ?_
    refine TC.block ?_
    refine TC.seq ?_
    have hrow := encP_get ps i h0 (by omega)
    have hst : setTo ps key value nn (i + 1).toNat = setStep key value (setTo ps key value nn i.toNat) (pAt ps i) := by (rw [show (i + 1).toNat = i.toNat + 1 by omega]; show setStep _ _ _ (pAt ps (i.toNat : Int)) = _; rw [show ((i.toNat : Nat) : Int) = i by omega])
    refine TC.regionCut [21, 22, 23, 24, 25, 26, 27, 28, 29, 30, 31] 31 ((setTo ps key value nn i.toNat).2 = false ∧ (pAt ps i).1 ≥ key) ?_ ?_
    · skip
      refine TL.run1 (pure_move rfl) rfl ?_
      refine TL.run1 (pure_not rfl) rfl ?_
      refine TL.run1 (pure_move rfl) rfl ?_
      first | refine TL.splitP 23 rfl (fun hg23 => ?_) (fun hg23 => ?_) | refine TL.split 23 rfl (fun hg23 => ?_) (fun hg23 => ?_)
      · try dsimp only at hg23
        refine TL.runG rfl rfl (pure_move rfl) rfl ?_
        refine TL.runG rfl rfl (pure_move rfl) rfl ?_
        refine TL.runG rfl rfl (pure_indexAddr Ty.sl27 rfl rfl (by omega) (by assumption) (List.cons_ne_nil _ _)) rfl ?_
        first | refine TL.runG rfl rfl (pure_fieldAddr Ty.f77_0 rfl (.zero _) (List.cons_ne_nil _ _)) rfl ?_ | refine TL.runG rfl rfl (pure_fieldAddr_own Ty.f77_0 rfl) rfl ?_
        first | refine TL.runG rfl rfl (pure_load1 Ty.one3 rfl) rfl ?_ | refine TL.runG rfl rfl (pure_load1_own Ty.one3 rfl (by repeat (first | exact List.Mem.head _ | apply List.Mem.tail)) (by repeat (first | exact DropR.zero _ | apply DropR.succ))) rfl ?_
        refine TL.runG rfl rfl (pure_move rfl) rfl ?_
        refine TL.runG rfl rfl (pure_geq rfl rfl) rfl ?_
        refine TL.run1 (pure_pick_true rfl rfl) rfl ?_
        refine TL.cutEnd (by repeat (first | exact Same.refl _ _ | refine Same.put rfl ?_)) rfl ?_
        first | (simp only [decide_eq_true_eq, Bool.false_eq_true, false_iff, true_iff, iff_true, iff_false, Bool.not_eq_true]; omega) | (simp_all; done) | (simp_all; omega) | grind
      · try dsimp only at hg23
        refine TL.passG rfl rfl rfl rfl ?_
        refine TL.passG rfl rfl rfl rfl ?_
        refine TL.passG rfl rfl rfl rfl ?_
        refine TL.passG rfl rfl rfl rfl ?_
        refine TL.passG rfl rfl rfl rfl ?_
        refine TL.passG rfl rfl rfl rfl ?_
        refine TL.passG rfl rfl rfl rfl ?_
        refine TL.run1 (pure_pick_false rfl rfl) rfl ?_
        refine TL.cutEnd (by repeat (first | exact Same.refl _ _ | refine Same.put rfl ?_)) rfl ?_
        first | (simp only [decide_eq_true_eq, Bool.false_eq_true, false_iff, true_iff, iff_true, iff_false, Bool.not_eq_true]; omega) | (simp_all; done) | (simp_all; omega) | grind
    first | refine TC.condD rfl (fun hc31 => ?_) (fun hc31 => ?_) | refine TC.condN rfl (fun hc31 => ?_) (fun hc31 => ?_) | refine TC.cond rfl (fun hc31 => ?_) (fun hc31 => ?_)
    · try dsimp only at hc31
      refine TC.seq ?_
      refine TC.region ?_
      refine TL.run1 (pure_move rfl) rfl ?_
      refine TL.run1 (pure_move rfl) rfl ?_
      refine TL.run1 (pure_move rfl) rfl ?_
      refine TL.run1 (pure_build Ty.pl77 Ty.zero77 (.cons rfl rfl (.one rfl) rfl (.here (.nil _)) (.cons rfl rfl (.one rfl) rfl (.skip (.here (.nil _))) (.nil _)))) rfl ?_
      refine TL.run1 (pure_buildSlice (xs := [.tmp 35]) Ty.app27 (by decide) rfl rfl (.cons rfl (.agg _) rfl .nil)) rfl ?_
      refine TL.append Ty.app27 rfl rfl (by intro _; repeat (first | exact UpdR.here _ | apply UpdR.there)) (by simp only [List.length_append, List.length_cons, List.length_nil]; omega) (by simp only [List.length_append, List.length_cons, List.length_nil]; omega) rfl (fun v37 hv37 => ?_)
      refine TL.run1 (pure_assign rfl) rfl ?_
      refine TL.nil' ?_
      refine TC.region ?_
      refine TL.run1 (pure_assign rfl) rfl ?_
      refine TL.nil' ?_
      refine TC.seq ?_
      refine TC.region ?_
      refine TL.run1 (pure_move rfl) rfl ?_
      refine TL.run1 (pure_move rfl) rfl ?_
      refine TL.run1 (pure_indexAddr Ty.sl27 rfl rfl (by omega) (by assumption) (List.cons_ne_nil _ _)) rfl ?_
      first | refine TL.run1 (pure_fieldAddr Ty.f77_0 rfl (.zero _) (List.cons_ne_nil _ _)) rfl ?_ | refine TL.run1 (pure_fieldAddr_own Ty.f77_0 rfl) rfl ?_
      first | refine TL.run1 (pure_load1 Ty.one3 rfl) rfl ?_ | refine TL.run1 (pure_load1_own Ty.one3 rfl (by repeat (first | exact List.Mem.head _ | apply List.Mem.tail)) (by repeat (first | exact DropR.zero _ | apply DropR.succ))) rfl ?_
      refine TL.run1 (pure_move rfl) rfl ?_
      refine TL.run1 (pure_neq rfl rfl) rfl ?_
      refine TL.nil' ?_
      first | refine TC.condD rfl (fun hc44 => ?_) (fun hc44 => ?_) | refine TC.condN rfl (fun hc44 => ?_) (fun hc44 => ?_) | refine TC.cond rfl (fun hc44 => ?_) (fun hc44 => ?_)
      · try dsimp only at hc44
        refine TC.region ?_
        refine TL.run1 (pure_move rfl) rfl ?_
        refine TL.run1 (pure_move rfl) rfl ?_
        refine TL.run1 (pure_move rfl) rfl ?_
        refine TL.run1 (pure_indexAddr Ty.sl27 rfl rfl (by omega) (by assumption) (List.cons_ne_nil _ _)) rfl ?_
        first | refine TL.run1 (pure_load Ty.agg77 rfl (.succ (.succ (.zero _)))) rfl ?_ | refine TL.run1 (pure_load_own Ty.agg77 rfl (by repeat (first | exact List.Mem.head _ | apply List.Mem.tail)) (by repeat (first | exact DropR.zero _ | apply DropR.succ)) (.succ (.succ (.zero _)))) rfl ?_
        refine TL.run1 (pure_buildSlice (xs := [.tmp 49]) Ty.app27 (by decide) rfl rfl (.cons rfl (.agg _) rfl .nil)) rfl ?_
        refine TL.append Ty.app27 rfl rfl (by intro _; repeat (first | exact UpdR.here _ | apply UpdR.there)) (by simp only [List.length_append, List.length_cons, List.length_nil]; omega) (by simp only [List.length_append, List.length_cons, List.length_nil]; omega) rfl (fun v51 hv51 => ?_)
        refine TL.run1 (pure_assign rfl) rfl ?_
        refine TL.nil ?_
        refine block_normal ?_
        refine then_normal ?_
        refine TC.region ?_
        refine TL.run1 (pure_move rfl) rfl ?_
        refine TL.run1 (pure_add rfl rfl (mkI64 (by omega) (by omega))) rfl ?_
        refine TL.run1 (pure_assign rfl) rfl ?_
        refine TL.nil ?_
        refine loop_next (i + 1, v51) ⟨?_, ?_⟩ ⟨by omega, by omega⟩ (by dsimp only; omega)
        · dsimp only; rw [hst]; unfold setStep; dsimp only
          rw [if_pos hc31, if_pos hc44]
          repeat (first | exact Agree.nil | refine Agree.cons rfl ?_)
        · dsimp only; rw [hst]; unfold setStep; dsimp only
          rw [if_pos hc31, if_pos hc44]
          rw [show (pAt ps i) = ((pAt ps i).1, (pAt ps i).2) from rfl]
          rw [encP_snoc, encP_snoc]
          repeat (first | exact List.nil_sublist _ | exact List.Sublist.refl _ | apply List.Sublist.cons_cons | apply List.Sublist.cons)
      · try dsimp only at hc44
        refine TC.skip ?_
        refine block_normal ?_
        refine then_normal ?_
        refine TC.region ?_
        refine TL.run1 (pure_move rfl) rfl ?_
        refine TL.run1 (pure_add rfl rfl (mkI64 (by omega) (by omega))) rfl ?_
        refine TL.run1 (pure_assign rfl) rfl ?_
        refine TL.nil ?_
        refine loop_next (i + 1, v37) ⟨?_, ?_⟩ ⟨by omega, by omega⟩ (by dsimp only; omega)
        · dsimp only; rw [hst]; unfold setStep; dsimp only
          rw [if_pos hc31, if_neg hc44]
          repeat (first | exact Agree.nil | refine Agree.cons rfl ?_)
        · dsimp only; rw [hst]; unfold setStep; dsimp only
          rw [if_pos hc31, if_neg hc44]
          rw [encP_snoc]
          repeat (first | exact List.nil_sublist _ | exact List.Sublist.refl _ | apply List.Sublist.cons_cons | apply List.Sublist.cons)
    · try dsimp only at hc31
      refine TC.skip' ?_
      refine TC.seq ?_
      refine TC.region ?_
      refine TL.run1 (pure_move rfl) rfl ?_
      refine TL.run1 (pure_move rfl) rfl ?_
      refine TL.run1 (pure_indexAddr Ty.sl27 rfl rfl (by omega) (by assumption) (List.cons_ne_nil _ _)) rfl ?_
      first | refine TL.run1 (pure_fieldAddr Ty.f77_0 rfl (.zero _) (List.cons_ne_nil _ _)) rfl ?_ | refine TL.run1 (pure_fieldAddr_own Ty.f77_0 rfl) rfl ?_
      first | refine TL.run1 (pure_load1 Ty.one3 rfl) rfl ?_ | refine TL.run1 (pure_load1_own Ty.one3 rfl (by repeat (first | exact List.Mem.head _ | apply List.Mem.tail)) (by repeat (first | exact DropR.zero _ | apply DropR.succ))) rfl ?_
      refine TL.run1 (pure_move rfl) rfl ?_
      refine TL.run1 (pure_neq rfl rfl) rfl ?_
      refine TL.nil' ?_
      first | refine TC.condD rfl (fun hc44 => ?_) (fun hc44 => ?_) | refine TC.condN rfl (fun hc44 => ?_) (fun hc44 => ?_) | refine TC.cond rfl (fun hc44 => ?_) (fun hc44 => ?_)
      · try dsimp only at hc44
        refine TC.region ?_
        refine TL.run1 (pure_move rfl) rfl ?_
        refine TL.run1 (pure_move rfl) rfl ?_
        refine TL.run1 (pure_move rfl) rfl ?_
        refine TL.run1 (pure_indexAddr Ty.sl27 rfl rfl (by omega) (by assumption) (List.cons_ne_nil _ _)) rfl ?_
        first | refine TL.run1 (pure_load Ty.agg77 rfl (.succ (.succ (.zero _)))) rfl ?_ | refine TL.run1 (pure_load_own Ty.agg77 rfl (by repeat (first | exact List.Mem.head _ | apply List.Mem.tail)) (by repeat (first | exact DropR.zero _ | apply DropR.succ)) (.succ (.succ (.zero _)))) rfl ?_
        refine TL.run1 (pure_buildSlice (xs := [.tmp 49]) Ty.app27 (by decide) rfl rfl (.cons rfl (.agg _) rfl .nil)) rfl ?_
        refine TL.append Ty.app27 rfl rfl (by intro _; repeat (first | exact UpdR.here _ | apply UpdR.there)) (by simp only [List.length_append, List.length_cons, List.length_nil]; omega) (by simp only [List.length_append, List.length_cons, List.length_nil]; omega) rfl (fun v51 hv51 => ?_)
        refine TL.run1 (pure_assign rfl) rfl ?_
        refine TL.nil ?_
        refine block_normal ?_
        refine then_normal ?_
        refine TC.region ?_
        refine TL.run1 (pure_move rfl) rfl ?_
        refine TL.run1 (pure_add rfl rfl (mkI64 (by omega) (by omega))) rfl ?_
        refine TL.run1 (pure_assign rfl) rfl ?_
        refine TL.nil ?_
        refine loop_next (i + 1, v51) ⟨?_, ?_⟩ ⟨by omega, by omega⟩ (by dsimp only; omega)
        · dsimp only; rw [hst]; unfold setStep; dsimp only
          rw [if_neg hc31, if_pos hc44]
          repeat (first | exact Agree.nil | refine Agree.cons rfl ?_)
        · dsimp only; rw [hst]; unfold setStep; dsimp only
          rw [if_neg hc31, if_pos hc44]
          rw [show (pAt ps i) = ((pAt ps i).1, (pAt ps i).2) from rfl]
          rw [encP_snoc]
          repeat (first | exact List.nil_sublist _ | exact List.Sublist.refl _ | apply List.Sublist.cons_cons | apply List.Sublist.cons)
      · try dsimp only at hc44
        refine TC.skip ?_
        refine block_normal ?_
        refine then_normal ?_
        refine TC.region ?_
        refine TL.run1 (pure_move rfl) rfl ?_
        refine TL.run1 (pure_add rfl rfl (mkI64 (by omega) (by omega))) rfl ?_
        refine TL.run1 (pure_assign rfl) rfl ?_
        refine TL.nil ?_
        refine loop_next (i + 1, v) ⟨?_, ?_⟩ ⟨by omega, by omega⟩ (by dsimp only; omega)
        · dsimp only; rw [hst]; unfold setStep; dsimp only
          rw [if_neg hc31, if_neg hc44]
          repeat (first | exact Agree.nil | refine Agree.cons rfl ?_)
        · dsimp only; rw [hst]; unfold setStep; dsimp only
          rw [if_neg hc31, if_neg hc44]
          repeat (first | exact List.nil_sublist _ | exact List.Sublist.refl _ | apply List.Sublist.cons_cons | apply List.Sublist.cons)
  · try dsimp only at hc18
    refine TC.exit ?_
    refine then_exit ?_
    refine loop_exit ?_
    refine block_here ?_
    refine then_normal ?_
    refine TC.seq ?_
    refine TC.seq ?_
    rw [show i.toNat = ps.length by omega]
    have hsl2 := setTo_len ps key value nn ps.length
    have hsk2 := encP_len (setTo ps key value nn ps.length).1
    refine TC.region ?_
    refine TL.run1 (pure_move rfl) rfl ?_
    refine TL.run1 (pure_not rfl) rfl ?_
    refine TL.nil' ?_
    first | refine TC.condD rfl (fun hc53 => ?_) (fun hc53 => ?_) | refine TC.condN rfl (fun hc53 => ?_) (fun hc53 => ?_) | refine TC.cond rfl (fun hc53 => ?_) (fun hc53 => ?_)
    · try dsimp only at hc53
      refine TC.region ?_
      refine TL.run1 (pure_move rfl) rfl ?_
      refine TL.run1 (pure_move rfl) rfl ?_
      refine TL.run1 (pure_move rfl) rfl ?_
      refine TL.run1 (pure_build Ty.pl77 Ty.zero77 (.cons rfl rfl (.one rfl) rfl (.here (.nil _)) (.cons rfl rfl (.one rfl) rfl (.skip (.here (.nil _))) (.nil _)))) rfl ?_
      refine TL.run1 (pure_buildSlice (xs := [.tmp 57]) Ty.app27 (by decide) rfl rfl (.cons rfl (.agg _) rfl .nil)) rfl ?_
      refine TL.append Ty.app27 rfl rfl (by intro _; repeat (first | exact UpdR.here _ | apply UpdR.there)) (by simp only [List.length_append, List.length_cons, List.length_nil]; omega) (by simp only [List.length_append, List.length_cons, List.length_nil]; omega) rfl (fun v59 hv59 => ?_)
      refine TL.run1 (pure_assign rfl) rfl ?_
      refine TL.nil' ?_
      refine TC.seq ?_
      refine TC.region ?_
      refine TL.run1 (pure_move rfl) rfl ?_
      refine TL.run1 (pure_assign rfl) rfl ?_
      refine TL.nil' ?_
      refine TC.ret ?_
      refine retF_row rfl (.head _) (by decide) (show ∀ x ∈ encP _ ++ [[D.v (.int .i64 key), D.v (.int .i64 value)]], x.length = 2 from by rw [← encP_snoc]; exact encP_each _) ?_
      unfold setR
      rw [if_pos (by simpa using hc53), encP_snoc]
      rfl
    · try dsimp only at hc53
      refine TC.skip' ?_
      refine TC.seq ?_
      refine TC.region ?_
      refine TL.run1 (pure_move rfl) rfl ?_
      refine TL.run1 (pure_assign rfl) rfl ?_
      refine TL.nil' ?_
      refine TC.ret ?_
      refine retF_row rfl (.head _) (by decide) (encP_each _) ?_
      unfold setR
      rw [if_neg (by simpa using hc53)]

def cellK (id span merge : Int) : CellD := ⟨.v (.int .i64 id), setR (setR [] 60 span 1) 61 merge 0, .v (.int .i64 0), .v (.int .i64 0), .v (.slice none 0 0), .v (.slice none 0 0), []⟩
set_option maxRecDepth 100000 in
theorem cell0_spec (id span merge : Int) (hl : (setR [] 60 span 1).length ≤ 1000) : Fun Try.prog 36 [.v (.int .i64 id), .v (.int .i64 span), .v (.int .i64 merge)] (.agg [.v (.int .i64 id), .sl 2 (encP (setR (setR [] 60 span 1) 61 merge 0)), .v (.int .i64 0), .v (.int .i64 0), .v (.slice none 0 0), .v (.slice none 0 0), .v (.slice none 0 0)]) := by
  refine Fun.enter (n := 14) (rs := [.cell 6 74]) Try.func36 rfl Try.ntmps36 Try.results36 rfl (fun w F => ?_)
  refine TC.seq ?_
  refine TC.region ?_
  refine TL.alloc Ty.zero74 rfl (fun g6 => ?_)
  refine TL.nil' ?_
  refine TC.seq ?_
  refine TC.region ?_
  refine TL.run1 (pure_move rfl) rfl ?_
  refine TL.run1 (pure_move rfl) rfl ?_
  first | refine TL.run1 (pure_call ((set_spec [] 60 span 1 (by decide)).le (.cons (.nil 2) (.refl _)) (.refl _)) (.cons rfl (.cons rfl (.cons rfl (.cons rfl .nil)))) Try.call49) rfl ?_ | refine TL.run1 (pure_call (set_spec (setR [] 60 span 1) 61 merge 0 hl) (.cons rfl (.cons rfl (.cons rfl (.cons rfl .nil)))) Try.call49) rfl ?_
  refine TL.run1 (pure_move rfl) rfl ?_
  first | refine TL.run1 (pure_call ((set_spec [] 60 span 1 (by decide)).le (.cons (.nil 2) (.refl _)) (.refl _)) (.cons rfl (.cons rfl (.cons rfl (.cons rfl .nil)))) Try.call49) rfl ?_ | refine TL.run1 (pure_call (set_spec (setR [] 60 span 1) 61 merge 0 hl) (.cons rfl (.cons rfl (.cons rfl (.cons rfl .nil)))) Try.call49) rfl ?_
  refine TL.run1 (pure_build Ty.pl33 Ty.zero33 (.cons rfl rfl (.one rfl) rfl (.here (.nil _)) (.nil _))) rfl ?_
  refine TL.run1 (pure_build Ty.pl74 Ty.zero74 (.cons rfl rfl (.one rfl) rfl (.here (.nil _)) (.cons rfl rfl (.agg _) rfl (.skip (.here (.here (.here (.here (.here (.nil _))))))) (.nil _)))) rfl ?_
  refine TL.store rfl rfl (.agg _) Try.sizeOf74 rfl (by repeat (first | exact UpdR.here _ | apply UpdR.there)) (by repeat (first | exact PutR.nil _ | apply PutR.here | apply PutR.skip)) ?_
  refine TL.nil' ?_
  refine TC.ret ?_
  exact ret_cell (.inl rfl) Ty.agg74 rfl (.head _) rfl rfl

theorem cell_spec (id span merge : Int) (hl : (setR [] 60 span 1).length ≤ 1000) : Fun Try.prog 36 [.v (.int .i64 id), .v (.int .i64 span), .v (.int .i64 merge)] (.agg (encC (cellK id span merge))) :=
  (cell0_spec id span merge hl).le (.refl _) (.agg (.cons (.refl _) (.cons (.refl _) (.cons (.refl _) (.cons (.refl _) (.cons (.refl _) (.cons (.refl _) (.cons (.nil 11) .nil))))))))
set_option maxRecDepth 100000 in
theorem Rects_spec (rs : List RowD) (hr : ∀ r ∈ rs, RowOk r) (hl : rs.length ≤ 2000) : Fun Try.prog 14 [.sl 6 (encRs rs)] (.sl 6 (encQs (layRects rs))) := by
  refine Fun.enter (n := 6) (rs := [.tmp 2]) Try.func14 rfl Try.ntmps14 Try.results14 rfl (fun w F => ?_)
  refine TC.seq ?_
  refine TC.region ?_
  refine TL.run1 (pure_assign rfl) rfl ?_
  refine TL.nil' ?_
  refine TC.seq ?_
  refine TC.region ?_
  refine TL.run1 (pure_move rfl) rfl ?_
  refine TL.run1 (pure_call (lay_spec rs hr hl) (.cons rfl .nil) Try.call37) rfl ?_
  refine TL.run1 (pure_field Ty.fv81_1 Ty.one25 rfl rfl) rfl ?_
  refine TL.run1 (pure_assign rfl) rfl ?_
  refine TL.nil' ?_
  refine TC.ret ?_
  exact ret_sl rfl rfl

def rowK (cs : List CellD) : RowD := ⟨.v (.slice none 0 0), .v (.int .i64 0), .v (.int .i64 0), .v (.slice none 0 0), .v (.slice none 0 0), cs⟩
def rowsK : List RowD := [rowK [cellK 1 2 1, cellK 2 1 0], rowK [cellK 3 2 2, cellK 4 1 0]]
theorem rowsK_cells : ∀ c ∈ [cellK 1 2 1, cellK 2 1 0, cellK 3 2 2, cellK 4 1 0], CellOk c := by
  intro c hc
  simp only [List.mem_cons, List.not_mem_nil, or_false] at hc
  rcases hc with rfl | rfl | rfl | rfl <;> exact ⟨by unfold Inc; decide, by decide⟩
theorem rowsK_ok : TabOk rowsK := by
  refine ⟨fun r hr => ?_, by decide⟩
  simp only [rowsK, List.mem_cons, List.not_mem_nil, or_false] at hr
  rcases hr with rfl | rfl
  · exact ⟨fun c hc => rowsK_cells c (by simp only [rowK, List.mem_cons, List.not_mem_nil, or_false] at hc ⊢; rcases hc with rfl | rfl <;> simp), by simp [rowK], by simp [rowK]⟩
  · exact ⟨fun c hc => rowsK_cells c (by simp only [rowK, List.mem_cons, List.not_mem_nil, or_false] at hc ⊢; rcases hc with rfl | rfl <;> simp), by simp [rowK], by simp [rowK]⟩
theorem layK : layRects rowsK = [⟨0, 0, 0, 0, 2, 2⟩, ⟨0, 1, 0, 2, 1, 3⟩, ⟨1, 1, 1, 2, 2, 3⟩] := by decide
theorem widthK : widthN rowsK 2 = 3 := by decide
theorem RectsK_spec : Fun Try.prog 14 [.sl 6 (encRs rowsK)] (.sl 6 (encQs [⟨0, 0, 0, 0, 2, 2⟩, ⟨0, 1, 0, 2, 1, 3⟩, ⟨1, 1, 1, 2, 2, 3⟩])) := layK ▸ Rects_spec rowsK rowsK_ok.1 (by decide)
theorem ColumnsK_spec : Fun Try.prog 17 [.sl 6 (encRs rowsK)] (.v (.int .i64 3)) := widthK ▸ Columns_spec rowsK rowsK_ok
set_option maxRecDepth 100000 in
theorem known_spec  : Fun Try.prog 12 [] (.v (.bool true)) := by
  refine Fun.enter (n := 38) (rs := [.tmp 0]) Try.func12 rfl Try.ntmps12 Try.results12 rfl (fun w F => ?_)
  have hln : (encQs [⟨0, 0, 0, 0, 2, 2⟩, ⟨0, 1, 0, 2, 1, 3⟩, ⟨1, 1, 1, 2, 2, 3⟩]).length = 3 := rfl
  refine TC.seq ?_
  refine TC.region ?_
  refine TL.run1 (pure_assign rfl) rfl ?_
  refine TL.nil' ?_
  refine TC.seq ?_
  refine TC.region ?_
  refine TL.run1 (pure_call (cell_spec _ _ _ (by decide)) (.cons rfl (.cons rfl (.cons rfl .nil))) Try.call36) rfl ?_
  refine TL.run1 (pure_call (cell_spec _ _ _ (by decide)) (.cons rfl (.cons rfl (.cons rfl .nil))) Try.call36) rfl ?_
  refine TL.run1 (pure_buildSlice (xs := [.tmp 3, .tmp 4]) Ty.app34 (by decide) rfl rfl (.cons rfl (.agg _) rfl (.cons rfl (.agg _) rfl .nil))) rfl ?_
  refine TL.run1 (pure_build Ty.pl36 Ty.zero36 (.cons rfl rfl (.one rfl) rfl (.skip (.skip (.skip (.skip (.skip (.here (.nil _))))))) (.nil _))) rfl ?_
  refine TL.run1 (pure_call (cell_spec _ _ _ (by decide)) (.cons rfl (.cons rfl (.cons rfl .nil))) Try.call36) rfl ?_
  refine TL.run1 (pure_call (cell_spec _ _ _ (by decide)) (.cons rfl (.cons rfl (.cons rfl .nil))) Try.call36) rfl ?_
  refine TL.run1 (pure_buildSlice (xs := [.tmp 7, .tmp 8]) Ty.app34 (by decide) rfl rfl (.cons rfl (.agg _) rfl (.cons rfl (.agg _) rfl .nil))) rfl ?_
  refine TL.run1 (pure_build Ty.pl36 Ty.zero36 (.cons rfl rfl (.one rfl) rfl (.skip (.skip (.skip (.skip (.skip (.here (.nil _))))))) (.nil _))) rfl ?_
  refine TL.run1 (pure_buildSlice (xs := [.tmp 6, .tmp 10]) Ty.app22 (by decide) rfl rfl (.cons rfl (.agg _) rfl (.cons rfl (.agg _) rfl .nil))) rfl ?_
  refine TL.run1 (pure_assign rfl) rfl ?_
  refine TL.nil' ?_
  refine TC.seq ?_
  refine TC.region ?_
  refine TL.run1 (pure_move rfl) rfl ?_
  refine TL.run1 (pure_call (RectsK_spec) (.cons rfl .nil) Try.call14) rfl ?_
  refine TL.run1 (pure_assign rfl) rfl ?_
  refine TL.nil' ?_
  refine TC.regionCut [14, 15, 16, 17, 18, 19, 20, 21, 22, 23, 24, 25, 26, 27, 28, 29, 30, 31, 32, 33, 34, 35, 36, 37, 0] 0 (True) ?_ ?_
  · skip
    refine TL.run1 (pure_move rfl) rfl ?_
    refine TL.run1 (pure_call (ColumnsK_spec) (.cons rfl .nil) Try.call17) rfl ?_
    refine TL.run1 (pure_eql rfl rfl) rfl ?_
    refine TL.run1 (pure_move rfl) rfl ?_
    first | refine TL.splitP 17 rfl (fun hg17 => ?_) (fun hg17 => ?_) | refine TL.split 17 rfl (fun hg17 => ?_) (fun hg17 => ?_)
    · try dsimp only at hg17
      have hr0 : (encQs [⟨0, 0, 0, 0, 2, 2⟩, ⟨0, 1, 0, 2, 1, 3⟩, ⟨1, 1, 1, 2, 2, 3⟩])[(0 : Int).toNat]? = some (encQ ⟨0, 0, 0, 0, 2, 2⟩) := rfl
      have hr2 : (encQs [⟨0, 0, 0, 0, 2, 2⟩, ⟨0, 1, 0, 2, 1, 3⟩, ⟨1, 1, 1, 2, 2, 3⟩])[(2 : Int).toNat]? = some (encQ ⟨1, 1, 1, 2, 2, 3⟩) := rfl
      refine TL.runG rfl rfl (pure_move rfl) rfl ?_
      first | refine TL.runG rfl rfl (pure_len Ty.sl25 rfl) rfl ?_ | refine TL.runG rfl rfl (pure_len_row Ty.sl25 rfl (by repeat (first | exact List.Mem.head _ | apply List.Mem.tail))) rfl ?_ | refine TL.runG rfl rfl (pure_len_nil Ty.sl25 rfl) rfl ?_
      refine TL.runG rfl rfl (pure_eql rfl rfl) rfl ?_
      refine TL.run1 (pure_pick_true rfl rfl) rfl ?_
      refine TL.run1 (pure_move rfl) rfl ?_
      first | refine TL.splitP 22 rfl (fun hg22 => ?_) (fun hg22 => ?_) | refine TL.split 22 rfl (fun hg22 => ?_) (fun hg22 => ?_)
      · try dsimp only at hg22
        refine TL.runG rfl rfl (pure_move rfl) rfl ?_
        refine TL.runG rfl rfl (pure_indexAddr Ty.sl25 rfl rfl (by omega) (by assumption) (List.cons_ne_nil _ _)) rfl ?_
        first | refine TL.runG rfl rfl (pure_load Ty.agg40 rfl (.succ (.succ (.succ (.succ (.succ (.succ (.zero _)))))))) rfl ?_ | refine TL.runG rfl rfl (pure_load_own Ty.agg40 rfl (by repeat (first | exact List.Mem.head _ | apply List.Mem.tail)) (by repeat (first | exact DropR.zero _ | apply DropR.succ)) (.succ (.succ (.succ (.succ (.succ (.succ (.zero _)))))))) rfl ?_
        refine TL.runG rfl rfl (pure_build Ty.pl38 Ty.zero38 (.cons rfl rfl (.one rfl) rfl (.skip (.skip (.here (.nil _)))) (.cons rfl rfl (.one rfl) rfl (.skip (.skip (.skip (.here (.nil _))))) (.nil _)))) rfl ?_
        refine TL.runG rfl rfl (pure_build Ty.pl40 Ty.zero40 (.cons rfl rfl (.agg _) rfl (.skip (.skip (.here (.here (.here (.here (.nil _))))))) (.nil _))) rfl ?_
        refine TL.runG rfl rfl (pure_eql_agg Ty.eq40 rfl rfl (.cons (.cons (.cons (.cons (.cons (.cons .nil)))))) (.cons (.cons (.cons (.cons (.cons (.cons .nil)))))) rfl rfl) rfl ?_
        refine TL.run1 (pure_pick_true rfl rfl) rfl ?_
        refine TL.run1 (pure_move rfl) rfl ?_
        first | refine TL.splitP 30 rfl (fun hg30 => ?_) (fun hg30 => ?_) | refine TL.split 30 rfl (fun hg30 => ?_) (fun hg30 => ?_)
        · try dsimp only at hg30
          refine TL.runG rfl rfl (pure_move rfl) rfl ?_
          refine TL.runG rfl rfl (pure_indexAddr Ty.sl25 rfl rfl (by omega) (by assumption) (List.cons_ne_nil _ _)) rfl ?_
          first | refine TL.runG rfl rfl (pure_load Ty.agg40 rfl (.succ (.succ (.succ (.succ (.succ (.succ (.zero _)))))))) rfl ?_ | refine TL.runG rfl rfl (pure_load_own Ty.agg40 rfl (by repeat (first | exact List.Mem.head _ | apply List.Mem.tail)) (by repeat (first | exact DropR.zero _ | apply DropR.succ)) (.succ (.succ (.succ (.succ (.succ (.succ (.zero _)))))))) rfl ?_
          refine TL.runG rfl rfl (pure_build Ty.pl38 Ty.zero38 (.cons rfl rfl (.one rfl) rfl (.here (.nil _)) (.cons rfl rfl (.one rfl) rfl (.skip (.here (.nil _))) (.cons rfl rfl (.one rfl) rfl (.skip (.skip (.here (.nil _)))) (.cons rfl rfl (.one rfl) rfl (.skip (.skip (.skip (.here (.nil _))))) (.nil _)))))) rfl ?_
          refine TL.runG rfl rfl (pure_build Ty.pl40 Ty.zero40 (.cons rfl rfl (.one rfl) rfl (.here (.nil _)) (.cons rfl rfl (.one rfl) rfl (.skip (.here (.nil _))) (.cons rfl rfl (.agg _) rfl (.skip (.skip (.here (.here (.here (.here (.nil _))))))) (.nil _))))) rfl ?_
          refine TL.runG rfl rfl (pure_eql_agg Ty.eq40 rfl rfl (.cons (.cons (.cons (.cons (.cons (.cons .nil)))))) (.cons (.cons (.cons (.cons (.cons (.cons .nil)))))) rfl rfl) rfl ?_
          refine TL.run1 (pure_pick_true rfl rfl) rfl ?_
          refine TL.run1 (pure_assign rfl) rfl ?_
          refine TL.cutEnd (by repeat (first | exact Same.refl _ _ | refine Same.put rfl ?_)) rfl ?_
          first | (simp only [decide_eq_true_eq, Bool.false_eq_true, false_iff, true_iff, iff_true, iff_false, Bool.not_eq_true]; omega) | (simp_all; done) | (simp_all; omega) | grind
        · try dsimp only at hg30
          refine TL.passG rfl rfl rfl rfl ?_
          refine TL.passG rfl rfl rfl rfl ?_
          refine TL.passG rfl rfl rfl rfl ?_
          refine TL.passG rfl rfl rfl rfl ?_
          refine TL.passG rfl rfl rfl rfl ?_
          refine TL.passG rfl rfl rfl rfl ?_
          refine TL.run1 (pure_pick_false rfl rfl) rfl ?_
          refine TL.run1 (pure_assign rfl) rfl ?_
          refine TL.cutEnd (by repeat (first | exact Same.refl _ _ | refine Same.put rfl ?_)) rfl ?_
          first | (simp only [decide_eq_true_eq, Bool.false_eq_true, false_iff, true_iff, iff_true, iff_false, Bool.not_eq_true]; omega) | (simp_all; done) | (simp_all; omega) | grind
      · try dsimp only at hg22
        refine TL.passG rfl rfl rfl rfl ?_
        refine TL.passG rfl rfl rfl rfl ?_
        refine TL.passG rfl rfl rfl rfl ?_
        refine TL.passG rfl rfl rfl rfl ?_
        refine TL.passG rfl rfl rfl rfl ?_
        refine TL.passG rfl rfl rfl rfl ?_
        refine TL.run1 (pure_pick_false rfl rfl) rfl ?_
        refine TL.run1 (pure_move rfl) rfl ?_
        refine TL.passG rfl rfl rfl rfl ?_
        refine TL.passG rfl rfl rfl rfl ?_
        refine TL.passG rfl rfl rfl rfl ?_
        refine TL.passG rfl rfl rfl rfl ?_
        refine TL.passG rfl rfl rfl rfl ?_
        refine TL.passG rfl rfl rfl rfl ?_
        refine TL.run1 (pure_pick_false rfl rfl) rfl ?_
        refine TL.run1 (pure_assign rfl) rfl ?_
        refine TL.cutEnd (by repeat (first | exact Same.refl _ _ | refine Same.put rfl ?_)) rfl ?_
        first | (simp only [decide_eq_true_eq, Bool.false_eq_true, false_iff, true_iff, iff_true, iff_false, Bool.not_eq_true]; omega) | (simp_all; done) | (simp_all; omega) | grind
    · try dsimp only at hg17
      refine TL.passG rfl rfl rfl rfl ?_
      refine TL.passG rfl rfl rfl rfl ?_
      refine TL.passG rfl rfl rfl rfl ?_
      refine TL.run1 (pure_pick_false rfl rfl) rfl ?_
      refine TL.run1 (pure_move rfl) rfl ?_
      refine TL.passG rfl rfl rfl rfl ?_
      refine TL.passG rfl rfl rfl rfl ?_
      refine TL.passG rfl rfl rfl rfl ?_
      refine TL.passG rfl rfl rfl rfl ?_
      refine TL.passG rfl rfl rfl rfl ?_
      refine TL.passG rfl rfl rfl rfl ?_
      refine TL.run1 (pure_pick_false rfl rfl) rfl ?_
      refine TL.run1 (pure_move rfl) rfl ?_
      refine TL.passG rfl rfl rfl rfl ?_
      refine TL.passG rfl rfl rfl rfl ?_
      refine TL.passG rfl rfl rfl rfl ?_
      refine TL.passG rfl rfl rfl rfl ?_
      refine TL.passG rfl rfl rfl rfl ?_
      refine TL.passG rfl rfl rfl rfl ?_
      refine TL.run1 (pure_pick_false rfl rfl) rfl ?_
      refine TL.run1 (pure_assign rfl) rfl ?_
      refine TL.cutEnd (by repeat (first | exact Same.refl _ _ | refine Same.put rfl ?_)) rfl ?_
      first | (simp only [decide_eq_true_eq, Bool.false_eq_true, false_iff, true_iff, iff_true, iff_false, Bool.not_eq_true]; omega) | (simp_all; done) | (simp_all; omega) | grind
  refine TC.ret ?_
  exact ret_bool rfl (by simp)
set_option maxRecDepth 100000 in
theorem GridSpans_spec (rs : List RowD) (row : Int) : Fun Try.prog 4 [.sl 6 (encRs rs), .v (.int .i64 row)] (.v (.bool true)) := by
  refine Fun.enter (n := 88) (rs := [.tmp 4]) Try.func4 rfl Try.ntmps4 Try.results4 rfl (fun w F => ?_)
  have hk := encRs_len rs
  refine TC.seq ?_
  refine TC.region ?_
  refine TL.run1 (pure_assign rfl) rfl ?_
  refine TL.nil' ?_
  refine TC.seq ?_
  refine TC.regionCut [10, 11, 12, 13, 14, 15, 16] 16 (smallB rs = false) ?_ ?_
  · skip
    refine TL.run1 (pure_call (known_spec) .nil Try.call12) rfl ?_
    refine TL.run1 (pure_not rfl) rfl ?_
    refine TL.run1 (pure_move rfl) rfl ?_
    first | refine TL.splitP 12 rfl (fun hg12 => ?_) (fun hg12 => ?_) | refine TL.split 12 rfl (fun hg12 => ?_) (fun hg12 => ?_)
    · try dsimp only at hg12
      refine TL.passG rfl rfl rfl rfl ?_
      refine TL.passG rfl rfl rfl rfl ?_
      refine TL.passG rfl rfl rfl rfl ?_
      refine TL.run1 (pure_pick_true rfl rfl) rfl ?_
      refine TL.cutEnd (by repeat (first | exact Same.refl _ _ | refine Same.put rfl ?_)) rfl ?_
      first | (simp only [decide_eq_true_eq, Bool.false_eq_true, false_iff, true_iff, iff_true, iff_false, Bool.not_eq_true]; omega) | (simp_all; done) | (simp_all; omega) | grind
    · try dsimp only at hg12
      refine TL.runG rfl rfl (pure_move rfl) rfl ?_
      refine TL.runG rfl rfl (pure_call (Small_spec _) (.cons rfl .nil) Try.call13) rfl ?_
      refine TL.runG rfl rfl (pure_not rfl) rfl ?_
      refine TL.run1 (pure_pick_false rfl rfl) rfl ?_
      refine TL.cutEnd (by repeat (first | exact Same.refl _ _ | refine Same.put rfl ?_)) rfl ?_
      first | (simp only [decide_eq_true_eq, Bool.false_eq_true, false_iff, true_iff, iff_true, iff_false, Bool.not_eq_true]; omega) | (simp_all; done) | (simp_all; omega) | grind
  first | refine TC.condD rfl (fun hc16 => ?_) (fun hc16 => ?_) | refine TC.condN rfl (fun hc16 => ?_) (fun hc16 => ?_) | refine TC.cond rfl (fun hc16 => ?_) (fun hc16 => ?_)
  · try dsimp only at hc16
    refine TC.seq ?_
    refine TC.region ?_
    refine TL.run1 (pure_call (known_spec) .nil Try.call12) rfl ?_
    refine TL.run1 (pure_assign rfl) rfl ?_
    refine TL.nil' ?_
    refine TC.ret ?_
    refine then_ret ?_
    exact ret_bool rfl rfl
  · try dsimp only at hc16
    have hsm : SmallT rs := (smallB_iff rs).1 (by simpa using hc16)
    have hr := hsm.ok
    refine TC.skip' ?_
    refine TC.seq ?_
    refine TC.region ?_
    refine TL.run1 (pure_move rfl) rfl ?_
    refine TL.run1 (pure_move rfl) rfl ?_
    refine TL.run1 (pure_call (Spans_spec _ hr _) (.cons rfl (.cons rfl .nil)) Try.call16) rfl ?_
    refine TL.run1 (pure_move rfl) rfl ?_
    refine TL.run1 (pure_extract rfl rfl) rfl ?_
    refine TL.run1 (pure_extract rfl rfl) rfl ?_
    refine TL.run1 (pure_assign rfl) rfl ?_
    refine TL.run1 (pure_assign rfl) rfl ?_
    refine TL.nil' ?_
    refine TC.seq ?_
    refine TC.seq ?_
    refine TC.region ?_
    refine TL.run1 (pure_move rfl) rfl ?_
    refine TL.run1 (pure_call (Columns_spec _ hr) (.cons rfl .nil) Try.call17) rfl ?_
    refine TL.run1 (pure_move rfl) rfl ?_
    refine TL.run1 (pure_call (Width_spec _ hr) (.cons rfl .nil) Try.call18) rfl ?_
    refine TL.run1 (pure_neq rfl rfl) rfl ?_
    refine TL.nil' ?_
    first | refine TC.condD rfl (fun hc28 => ?_) (fun hc28 => ?_) | refine TC.condN rfl (fun hc28 => ?_) (fun hc28 => ?_) | refine TC.cond rfl (fun hc28 => ?_) (fun hc28 => ?_)
    · try dsimp only at hc28
      exact absurd rfl hc28
    · try dsimp only at hc28
      refine TC.skip' ?_
      refine TC.seq ?_
      refine TC.regionCut [29, 30, 31, 32, 33, 34, 35, 36] 36 (row < 0 ∨ row ≥ rs.length) ?_ ?_
      · skip
        refine TL.run1 (pure_move rfl) rfl ?_
        refine TL.run1 (pure_lss rfl rfl) rfl ?_
        refine TL.run1 (pure_move rfl) rfl ?_
        first | refine TL.splitP 31 rfl (fun hg31 => ?_) (fun hg31 => ?_) | refine TL.split 31 rfl (fun hg31 => ?_) (fun hg31 => ?_)
        · try dsimp only at hg31
          refine TL.passG rfl rfl rfl rfl ?_
          refine TL.passG rfl rfl rfl rfl ?_
          refine TL.passG rfl rfl rfl rfl ?_
          refine TL.passG rfl rfl rfl rfl ?_
          refine TL.run1 (pure_pick_true rfl rfl) rfl ?_
          refine TL.cutEnd (by repeat (first | exact Same.refl _ _ | refine Same.put rfl ?_)) rfl ?_
          first | (simp only [decide_eq_true_eq, Bool.false_eq_true, false_iff, true_iff, iff_true, iff_false, Bool.not_eq_true]; omega) | (simp_all; done) | (simp_all; omega) | grind
        · try dsimp only at hg31
          refine TL.runG rfl rfl (pure_move rfl) rfl ?_
          refine TL.runG rfl rfl (pure_move rfl) rfl ?_
          first | refine TL.runG rfl rfl (pure_len Ty.sl22 rfl) rfl ?_ | refine TL.runG rfl rfl (pure_len_row Ty.sl22 rfl (by repeat (first | exact List.Mem.head _ | apply List.Mem.tail))) rfl ?_ | refine TL.runG rfl rfl (pure_len_nil Ty.sl22 rfl) rfl ?_
          refine TL.runG rfl rfl (pure_geq rfl rfl) rfl ?_
          refine TL.run1 (pure_pick_false rfl rfl) rfl ?_
          refine TL.cutEnd (by repeat (first | exact Same.refl _ _ | refine Same.put rfl ?_)) rfl ?_
          first | (simp only [decide_eq_true_eq, Bool.false_eq_true, false_iff, true_iff, iff_true, iff_false, Bool.not_eq_true]; omega) | (simp_all; done) | (simp_all; omega) | grind
      first | refine TC.condD rfl (fun hc36 => ?_) (fun hc36 => ?_) | refine TC.condN rfl (fun hc36 => ?_) (fun hc36 => ?_) | refine TC.cond rfl (fun hc36 => ?_) (fun hc36 => ?_)
      · try dsimp only at hc36
        have hin : ¬ (0 ≤ row ∧ row < rs.length) := by omega
        rw [if_neg hin, if_neg hin]
        have hln0 : (encS []).length = 0 := rfl
        refine TC.regionCut [37, 38, 39, 40, 41, 42, 43, 4] 4 (True) ?_ ?_
        · skip
          refine TL.run1 (pure_move rfl) rfl ?_
          first | refine TL.run1 (pure_len Ty.sl44 rfl) rfl ?_ | refine TL.run1 (pure_len_row Ty.sl44 rfl (by repeat (first | exact List.Mem.head _ | apply List.Mem.tail))) rfl ?_ | refine TL.run1 (pure_len_nil Ty.sl44 rfl) rfl ?_
          refine TL.run1 (pure_eql rfl rfl) rfl ?_
          refine TL.run1 (pure_move rfl) rfl ?_
          first | refine TL.splitP 40 rfl (fun hg40 => ?_) (fun hg40 => ?_) | refine TL.split 40 rfl (fun hg40 => ?_) (fun hg40 => ?_)
          · try dsimp only at hg40
            refine TL.runG rfl rfl (pure_move rfl) rfl ?_
            refine TL.runG rfl rfl (pure_eql rfl rfl) rfl ?_
            refine TL.run1 (pure_pick_true rfl rfl) rfl ?_
            refine TL.run1 (pure_assign rfl) rfl ?_
            refine TL.cutEnd (by repeat (first | exact Same.refl _ _ | refine Same.put rfl ?_)) rfl ?_
            first | (simp only [decide_eq_true_eq, Bool.false_eq_true, false_iff, true_iff, iff_true, iff_false, Bool.not_eq_true]; omega) | (simp_all; done) | (simp_all; omega) | grind
          · try dsimp only at hg40
            refine TL.passG rfl rfl rfl rfl ?_
            refine TL.passG rfl rfl rfl rfl ?_
            refine TL.run1 (pure_pick_false rfl rfl) rfl ?_
            refine TL.run1 (pure_assign rfl) rfl ?_
            refine TL.cutEnd (by repeat (first | exact Same.refl _ _ | refine Same.put rfl ?_)) rfl ?_
            first | (simp only [decide_eq_true_eq, Bool.false_eq_true, false_iff, true_iff, iff_true, iff_false, Bool.not_eq_true]; omega) | (simp_all; done) | (simp_all; omega) | grind
        refine TC.ret ?_
        refine then_ret ?_
        exact ret_bool rfl (by first | rfl | simp)
      · try dsimp only at hc36
        have hin : 0 ≤ row ∧ row < rs.length := by omega
        rw [if_pos hin, if_pos hin]
        have hrow := encRs_get rs row hin.1 hin.2
        have hro := hr.1 _ (rAt_mem rs row hin.1 hin.2)
        have hrl := hro.2.1
        have hck := encCs_len (rAt rs row).cells
        have hsl : (spansR (rAt rs row)).length = (rAt rs row).cells.length := spansFrom_len _ _
        have hsk := encS_len (spansR (rAt rs row))
        refine TC.skip' ?_
        refine TC.seq ?_
        refine TC.regionCut [44, 45, 46, 47, 48, 49, 50, 51, 52, 53, 54, 55, 56] 56 (False) ?_ ?_
        · skip
          refine TL.run1 (pure_move rfl) rfl ?_
          refine TL.run1 (pure_neq rfl rfl) rfl ?_
          refine TL.run1 (pure_move rfl) rfl ?_
          first | refine TL.splitP 46 rfl (fun hg46 => ?_) (fun hg46 => ?_) | refine TL.split 46 rfl (fun hg46 => ?_) (fun hg46 => ?_)
          · try dsimp only at hg46
            refine TL.passG rfl rfl rfl rfl ?_
            refine TL.passG rfl rfl rfl rfl ?_
            refine TL.passG rfl rfl rfl rfl ?_
            refine TL.passG rfl rfl rfl rfl ?_
            refine TL.passG rfl rfl rfl rfl ?_
            refine TL.passG rfl rfl rfl rfl ?_
            refine TL.passG rfl rfl rfl rfl ?_
            refine TL.passG rfl rfl rfl rfl ?_
            refine TL.passG rfl rfl rfl rfl ?_
            refine TL.run1 (pure_pick_true rfl rfl) rfl ?_
            refine TL.cutEnd (by repeat (first | exact Same.refl _ _ | refine Same.put rfl ?_)) rfl ?_
            first | (simp only [decide_eq_true_eq, Bool.false_eq_true, false_iff, true_iff, iff_true, iff_false, Bool.not_eq_true]; omega) | (simp_all; done) | (simp_all; omega) | grind
          · try dsimp only at hg46
            refine TL.runG rfl rfl (pure_move rfl) rfl ?_
            first | refine TL.runG rfl rfl (pure_len Ty.sl44 rfl) rfl ?_ | refine TL.runG rfl rfl (pure_len_row Ty.sl44 rfl (by repeat (first | exact List.Mem.head _ | apply List.Mem.tail))) rfl ?_ | refine TL.runG rfl rfl (pure_len_nil Ty.sl44 rfl) rfl ?_
            refine TL.runG rfl rfl (pure_move rfl) rfl ?_
            refine TL.runG rfl rfl (pure_move rfl) rfl ?_
            refine TL.runG rfl rfl (pure_indexAddr Ty.sl22 rfl rfl (by omega) (by assumption) (List.cons_ne_nil _ _)) rfl ?_
            first | refine TL.runG rfl rfl (pure_fieldAddr Ty.f36_1 rfl (.succ (.succ (.succ (.succ (.succ (.zero _)))))) (List.cons_ne_nil _ _)) rfl ?_ | refine TL.runG rfl rfl (pure_fieldAddr_own Ty.f36_1 rfl) rfl ?_
            first | refine TL.runG rfl rfl (pure_load1 Ty.one34 rfl) rfl ?_ | refine TL.runG rfl rfl (pure_load1_own Ty.one34 rfl (by repeat (first | exact List.Mem.head _ | apply List.Mem.tail)) (by repeat (first | exact DropR.zero _ | apply DropR.succ))) rfl ?_
            first | refine TL.runG rfl rfl (pure_len Ty.sl34 rfl) rfl ?_ | refine TL.runG rfl rfl (pure_len_row Ty.sl34 rfl (by repeat (first | exact List.Mem.head _ | apply List.Mem.tail))) rfl ?_ | refine TL.runG rfl rfl (pure_len_nil Ty.sl34 rfl) rfl ?_
            refine TL.runG rfl rfl (pure_neq rfl rfl) rfl ?_
            refine TL.run1 (pure_pick_false rfl rfl) rfl ?_
            refine TL.cutEnd (by repeat (first | exact Same.refl _ _ | refine Same.put rfl ?_)) rfl ?_
            first | (simp only [decide_eq_true_eq, Bool.false_eq_true, false_iff, true_iff, iff_true, iff_false, Bool.not_eq_true]; omega) | (simp_all; done) | (simp_all; omega) | grind
        first | refine TC.condD rfl (fun hc56 => ?_) (fun hc56 => ?_) | refine TC.condN rfl (fun hc56 => ?_) (fun hc56 => ?_) | refine TC.cond rfl (fun hc56 => ?_) (fun hc56 => ?_)
        · try dsimp only at hc56
          all_goals exact absurd hc56 id
        · try dsimp only at hc56
          refine TC.skip' ?_
          refine TC.seq ?_
          refine TC.seq ?_
          refine TC.region ?_
          refine TL.run1 (pure_assign rfl) rfl ?_
          refine TL.nil' ?_
          refine TC.block ?_
          refine TC.loopX (X := Int) (fun i => [(0, .sl 6 (encRs rs)), (1, .v (.int .i64 row)), (5, .sl 2 (encS (spansR (rAt rs row)))), (7, .v (.int .i64 i))]) (fun i => []) (fun i => (0 ≤ i) ∧ (i ≤ (spansR (rAt rs row)).length)) (fun i => ((spansR (rAt rs row)).length - i).toNat) (0) ⟨by skip; repeat (first | exact Agree.nil | refine Agree.cons rfl ?_), by skip; repeat (first | exact List.nil_sublist _ | exact List.Sublist.refl _ | apply List.Sublist.cons_cons | apply List.Sublist.cons)⟩ ?_ ?_
          · skip
            exact ⟨by omega, by omega⟩
          intro i
          rintro ⟨h0, h1⟩
          show TC _ _ _ (Env.of [(0, .sl 6 (encRs rs)), (1, .v (.int .i64 row)), (5, .sl 2 (encS (spansR (rAt rs row)))), (7, .v (.int .i64 i))]) []
          refine TC.seq ?_
          refine TC.seq ?_
          refine TC.region ?_
          refine TL.run1 (pure_move rfl) rfl ?_
          refine TL.run1 (pure_move rfl) rfl ?_
          first | refine TL.run1 (pure_len Ty.sl44 rfl) rfl ?_ | refine TL.run1 (pure_len_row Ty.sl44 rfl (by repeat (first | exact List.Mem.head _ | apply List.Mem.tail))) rfl ?_ | refine TL.run1 (pure_len_nil Ty.sl44 rfl) rfl ?_
          refine TL.run1 (pure_lss rfl rfl) rfl ?_
          refine TL.nil' ?_
          first | refine TC.condD rfl (fun hc60 => ?_) (fun hc60 => ?_) | refine TC.condN rfl (fun hc60 => ?_) (fun hc60 => ?_) | refine TC.cond rfl (fun hc60 => ?_) (fun hc60 => ?_)
          · try dsimp only at hc60
            refine TC.skip' ?_
            refine TC.seq ?_
            refine TC.block ?_
            refine TC.seq ?_
            refine TC.region ?_
            refine TL.run1 (pure_move rfl) rfl ?_
            refine TL.run1 (pure_move rfl) rfl ?_
            refine TL.run1 (pure_indexAddr Ty.sl22 rfl rfl (by omega) (by assumption) (List.cons_ne_nil _ _)) rfl ?_
            first | refine TL.run1 (pure_load Ty.agg36 rfl (.succ (.succ (.succ (.succ (.succ (.succ (.zero _)))))))) rfl ?_ | refine TL.run1 (pure_load_own Ty.agg36 rfl (by repeat (first | exact List.Mem.head _ | apply List.Mem.tail)) (by repeat (first | exact DropR.zero _ | apply DropR.succ)) (.succ (.succ (.succ (.succ (.succ (.succ (.zero _)))))))) rfl ?_
            refine TL.run1 (pure_move rfl) rfl ?_
            refine TL.run1 (pure_call (span_spec _ hro _ (by omega) (by omega)) (.cons rfl (.cons rfl .nil)) Try.call19) rfl ?_
            refine TL.run1 (pure_move rfl) rfl ?_
            refine TL.run1 (pure_extract rfl rfl) rfl ?_
            refine TL.run1 (pure_extract rfl rfl) rfl ?_
            refine TL.run1 (pure_assign rfl) rfl ?_
            refine TL.run1 (pure_assign rfl) rfl ?_
            refine TL.nil' ?_
            have hcell := encS_get (spansR (rAt rs row)) i h0 (by omega)
            refine TC.regionCut [72, 73, 74, 75, 76, 77, 78, 79, 80, 81, 82, 83, 84, 85, 86, 87] 87 (False) ?_ ?_
            · skip
              refine TL.run1 (pure_move rfl) rfl ?_
              refine TL.run1 (pure_move rfl) rfl ?_
              refine TL.run1 (pure_indexAddr Ty.sl44 rfl rfl (by omega) (by assumption) (List.cons_ne_nil _ _)) rfl ?_
              first | refine TL.run1 (pure_fieldAddr Ty.f51_0 rfl (.zero _) (List.cons_ne_nil _ _)) rfl ?_ | refine TL.run1 (pure_fieldAddr_own Ty.f51_0 rfl) rfl ?_
              first | refine TL.run1 (pure_load1 Ty.one3 rfl) rfl ?_ | refine TL.run1 (pure_load1_own Ty.one3 rfl (by repeat (first | exact List.Mem.head _ | apply List.Mem.tail)) (by repeat (first | exact DropR.zero _ | apply DropR.succ))) rfl ?_
              refine TL.run1 (pure_move rfl) rfl ?_
              refine TL.run1 (pure_neq rfl rfl) rfl ?_
              refine TL.run1 (pure_move rfl) rfl ?_
              first | refine TL.splitP 79 rfl (fun hg79 => ?_) (fun hg79 => ?_) | refine TL.split 79 rfl (fun hg79 => ?_) (fun hg79 => ?_)
              · try dsimp only at hg79
                refine TL.passG rfl rfl rfl rfl ?_
                refine TL.passG rfl rfl rfl rfl ?_
                refine TL.passG rfl rfl rfl rfl ?_
                refine TL.passG rfl rfl rfl rfl ?_
                refine TL.passG rfl rfl rfl rfl ?_
                refine TL.passG rfl rfl rfl rfl ?_
                refine TL.passG rfl rfl rfl rfl ?_
                refine TL.run1 (pure_pick_true rfl rfl) rfl ?_
                refine TL.cutEnd (by repeat (first | exact Same.refl _ _ | refine Same.put rfl ?_)) rfl ?_
                first | (simp only [decide_eq_true_eq, Bool.false_eq_true, false_iff, true_iff, iff_true, iff_false, Bool.not_eq_true]; omega) | (simp_all; done) | (simp_all; omega) | grind
              · try dsimp only at hg79
                refine TL.runG rfl rfl (pure_move rfl) rfl ?_
                refine TL.runG rfl rfl (pure_move rfl) rfl ?_
                refine TL.runG rfl rfl (pure_indexAddr Ty.sl44 rfl rfl (by omega) (by assumption) (List.cons_ne_nil _ _)) rfl ?_
                first | refine TL.runG rfl rfl (pure_fieldAddr Ty.f51_1 rfl (.succ (.zero _)) (List.cons_ne_nil _ _)) rfl ?_ | refine TL.runG rfl rfl (pure_fieldAddr_own Ty.f51_1 rfl) rfl ?_
                first | refine TL.runG rfl rfl (pure_load1 Ty.one3 rfl) rfl ?_ | refine TL.runG rfl rfl (pure_load1_own Ty.one3 rfl (by repeat (first | exact List.Mem.head _ | apply List.Mem.tail)) (by repeat (first | exact DropR.zero _ | apply DropR.succ))) rfl ?_
                refine TL.runG rfl rfl (pure_move rfl) rfl ?_
                refine TL.runG rfl rfl (pure_neq rfl rfl) rfl ?_
                refine TL.run1 (pure_pick_false rfl rfl) rfl ?_
                refine TL.cutEnd (by repeat (first | exact Same.refl _ _ | refine Same.put rfl ?_)) rfl ?_
                first | (simp only [decide_eq_true_eq, Bool.false_eq_true, false_iff, true_iff, iff_true, iff_false, Bool.not_eq_true]; omega) | (simp_all; done) | (simp_all; omega) | grind
            first | refine TC.condD rfl (fun hc87 => ?_) (fun hc87 => ?_) | refine TC.condN rfl (fun hc87 => ?_) (fun hc87 => ?_) | refine TC.cond rfl (fun hc87 => ?_) (fun hc87 => ?_)
            · try dsimp only at hc87
              all_goals exact absurd hc87 id
            · try dsimp only at hc87
              refine TC.skip ?_
              refine block_normal ?_
              refine then_normal ?_
              refine TC.region ?_
              refine TL.run1 (pure_move rfl) rfl ?_
              refine TL.run1 (pure_add rfl rfl (mkI64 (by omega) (by omega))) rfl ?_
              refine TL.run1 (pure_assign rfl) rfl ?_
              refine TL.nil ?_
              refine loop_next (i + 1) ⟨by repeat (first | exact Agree.nil | refine Agree.cons rfl ?_), by repeat (first | exact List.nil_sublist _ | exact List.Sublist.refl _ | apply List.Sublist.cons_cons | apply List.Sublist.cons)⟩ ⟨by omega, by omega⟩ (by omega)
          · try dsimp only at hc60
            refine TC.exit ?_
            refine then_exit ?_
            refine loop_exit ?_
            refine block_here ?_
            refine then_normal ?_
            refine TC.seq ?_
            refine TC.region ?_
            refine TL.run1 (pure_assign rfl) rfl ?_
            refine TL.nil' ?_
            refine TC.ret ?_
            exact ret_bool rfl (by first | rfl | simp)
end Go.Ob
