import Derived.Test.YtlhjcleejolbiaaZe
set_option linter.unusedVariables false
set_option linter.unusedSimpArgs false
set_option linter.unnecessarySimpa false
set_option linter.unusedVariables false
set_option linter.unusedSimpArgs false
namespace Go.Ob
open Go.Proofs
def spTo (r : RowD) (i : Int) : Int := if i = 0 then 0 else (sAt (spansR r) (i - 1)).2
def spFrom (r : RowD) (i : Int) : Int := if i = 0 then 0 else (sAt (spansR r) (i - 1)).1
theorem spansFrom_at : ∀ (cs : List CellD) (k : Int) (i : Nat), i < cs.length →
    (spansFrom k cs).getD i (0, 0) = ((if i = 0 then k else ((spansFrom k cs).getD (i - 1) (0, 0)).2),
      (if i = 0 then k else ((spansFrom k cs).getD (i - 1) (0, 0)).2) + min (spanN (cs.getD i cell0)) (32 - (if i = 0 then k else ((spansFrom k cs).getD (i - 1) (0, 0)).2)))
  | [], _, _, h => by simp at h
  | c :: cs, k, 0, _ => by simp [spansFrom]
  | c :: cs, k, 1, h => by
    have := spansFrom_at cs (k + min (spanN c) (32 - k)) 0 (by simpa using h)
    simpa [spansFrom] using this
  | c :: cs, k, i + 2, h => by
    have := spansFrom_at cs (k + min (spanN c) (32 - k)) (i + 1) (by simp only [List.length_cons] at h; omega)
    simpa [spansFrom] using this
theorem sAt_step (r : RowD) (i : Int) (h0 : 0 ≤ i) (h1 : i < r.cells.length) : sAt (spansR r) i = (spTo r i, spTo r i + min (spanN (cAt r.cells i)) (32 - spTo r i)) := by
  have h := spansFrom_at r.cells 0 i.toNat (by omega)
  unfold sAt spTo spansR cAt
  by_cases hi : i = 0
  · subst hi; rw [h]; simp
  · rw [if_neg hi, h]
    have e : (i - 1).toNat = i.toNat - 1 := by omega
    simp only [sAt, e, show i.toNat ≠ 0 by omega, if_false]
theorem sp_range (r : RowD) (i : Int) (h0 : 0 ≤ i) (h1 : i ≤ r.cells.length) : 0 ≤ spTo r i ∧ spTo r i ≤ 32 := by
  have : ∀ n : Nat, n ≤ r.cells.length → 0 ≤ spTo r n ∧ spTo r n ≤ 32 := by
    intro n
    induction n with
    | zero => intro _; simp [spTo]
    | succ n ih =>
      intro hn
      have := ih (by omega)
      have e := sAt_step r n (by omega) (by omega)
      have e2 : spTo r ((n + 1 : Nat) : Int) = (sAt (spansR r) n).2 := by
        unfold spTo
        rw [if_neg (by omega), show ((n + 1 : Nat) : Int) - 1 = n by omega]
      rw [e2, e]
      dsimp only
      unfold spanN
      omega
  have h := this i.toNat (by omega)
  rwa [show ((i.toNat : Nat) : Int) = i by omega] at h
theorem spTo_succ (r : RowD) (i : Int) (h0 : 0 ≤ i) : spTo r (i + 1) = (sAt (spansR r) i).2 := by
  unfold spTo; rw [if_neg (by omega), show i + 1 - 1 = i by omega]
theorem spFrom_succ (r : RowD) (i : Int) (h0 : 0 ≤ i) : spFrom r (i + 1) = (sAt (spansR r) i).1 := by
  unfold spFrom; rw [if_neg (by omega), show i + 1 - 1 = i by omega]
def widthN (rs : List RowD) : Nat → Int
  | 0 => 0
  | i + 1 => max (widthN rs i) (spTo (rAt rs i) (rAt rs i).cells.length)
theorem widthN_nonneg (rs : List RowD) : ∀ i, 0 ≤ widthN rs i
  | 0 => Int.le_refl _
  | i + 1 => by have := widthN_nonneg rs i; unfold widthN; omega
theorem spTo_mono (r : RowD) (i : Int) (h0 : 0 ≤ i) (h1 : i < r.cells.length) : spTo r i ≤ spTo r (i + 1) := by
  rw [spTo_succ r i h0, sAt_step r i h0 h1]
  have := sp_range r i h0 (by omega)
  dsimp only
  unfold spanN
  omega
set_option maxRecDepth 100000 in
theorem get_spec (ps : List (Int × Int)) (key dflt : Int) (hl : ps.length ≤ 1000000) : Fun Try.prog 40 [.sl 2 (encP ps), .v (.int .i64 key), .v (.int .i64 dflt)] (.v (.int .i64 (getP ps key dflt))) := by
  refine Fun.enter (n := 27) (rs := [.tmp 6]) Try.func40 rfl Try.ntmps40 Try.results40 rfl (fun w F => ?_)
  refine TC.seq ?_
  refine TC.region ?_
  refine TL.run1 (pure_assign rfl) rfl ?_
  refine TL.nil' ?_
  refine TC.seq ?_
  refine TC.seq ?_
  refine TC.region ?_
  refine TL.run1 (pure_assign rfl) rfl ?_
  refine TL.nil' ?_
  refine TC.block ?_
  refine TC.loopX (X := Int) (fun i => [(0, .sl 2 (encP ps)), (1, .v (.int .i64 key)), (2, .v (.int .i64 dflt)), (7, .v (.int .i64 i))]) (fun i => []) (fun i => (0 ≤ i) ∧ (i ≤ ps.length) ∧ (getP (ps.drop i.toNat) key dflt = getP ps key dflt)) (fun i => (ps.length - i).toNat) (0) ⟨by skip; repeat (first | exact Agree.nil | refine Agree.cons rfl ?_), by skip; repeat (first | exact List.nil_sublist _ | exact List.Sublist.refl _ | apply List.Sublist.cons_cons | apply List.Sublist.cons)⟩ ?_ ?_
  · skip
    exact ⟨by omega, by omega, rfl⟩
  intro i
  rintro ⟨h0, h1, h2⟩
  show TC _ _ _ (Env.of [(0, .sl 2 (encP ps)), (1, .v (.int .i64 key)), (2, .v (.int .i64 dflt)), (7, .v (.int .i64 i))]) []
  have hk : (encP ps).length = ps.length := encP_len ps
  refine TC.seq ?_
  refine TC.seq ?_
  refine TC.region ?_
  refine TL.run1 (pure_move rfl) rfl ?_
  refine TL.run1 (pure_move rfl) rfl ?_
  first | refine TL.run1 (pure_len Ty.sl27 rfl) rfl ?_ | refine TL.run1 (pure_len_row Ty.sl27 rfl (by repeat (first | exact List.Mem.head _ | apply List.Mem.tail))) rfl ?_ | refine TL.run1 (pure_len_nil Ty.sl27 rfl) rfl ?_
  refine TL.run1 (pure_lss rfl rfl) rfl ?_
  refine TL.nil' ?_
  first | refine TC.condD rfl (fun hc11 => ?_) (fun hc11 => ?_) | refine TC.condN rfl (fun hc11 => ?_) (fun hc11 => ?_) | refine TC.cond rfl (fun hc11 => ?_) (fun hc11 => ?_)
  · try dsimp only at hc11
    refine TC.skip' ?_
    refine TC.seq ?_
    refine TC.block ?_
    refine TC.seq ?_
    have hrow := encP_get ps i h0 (by omega)
    refine TC.region ?_
    refine TL.run1 (pure_move rfl) rfl ?_
    refine TL.run1 (pure_move rfl) rfl ?_
    refine TL.run1 (pure_indexAddr Ty.sl27 rfl rfl (by omega) (by assumption) (List.cons_ne_nil _ _)) rfl ?_
    first | refine TL.run1 (pure_fieldAddr Ty.f77_0 rfl (.zero _) (List.cons_ne_nil _ _)) rfl ?_ | refine TL.run1 (pure_fieldAddr_own Ty.f77_0 rfl) rfl ?_
    first | refine TL.run1 (pure_load1 Ty.one3 rfl) rfl ?_ | refine TL.run1 (pure_load1_own Ty.one3 rfl (by repeat (first | exact List.Mem.head _ | apply List.Mem.tail)) (by repeat (first | exact DropR.zero _ | apply DropR.succ))) rfl ?_
    refine TL.run1 (pure_move rfl) rfl ?_
    refine TL.run1 (pure_eql rfl rfl) rfl ?_
    refine TL.nil' ?_
    first | refine TC.condD rfl (fun hc20 => ?_) (fun hc20 => ?_) | refine TC.condN rfl (fun hc20 => ?_) (fun hc20 => ?_) | refine TC.cond rfl (fun hc20 => ?_) (fun hc20 => ?_)
    · try dsimp only at hc20
      refine TC.seq ?_
      refine TC.region ?_
      refine TL.run1 (pure_move rfl) rfl ?_
      refine TL.run1 (pure_move rfl) rfl ?_
      refine TL.run1 (pure_indexAddr Ty.sl27 rfl rfl (by omega) (by assumption) (List.cons_ne_nil _ _)) rfl ?_
      first | refine TL.run1 (pure_fieldAddr Ty.f77_1 rfl (.succ (.zero _)) (List.cons_ne_nil _ _)) rfl ?_ | refine TL.run1 (pure_fieldAddr_own Ty.f77_1 rfl) rfl ?_
      first | refine TL.run1 (pure_load1 Ty.one3 rfl) rfl ?_ | refine TL.run1 (pure_load1_own Ty.one3 rfl (by repeat (first | exact List.Mem.head _ | apply List.Mem.tail)) (by repeat (first | exact DropR.zero _ | apply DropR.succ))) rfl ?_
      refine TL.run1 (pure_assign rfl) rfl ?_
      refine TL.nil' ?_
      refine TC.ret ?_
      refine block_ret ?_
      refine then_ret ?_
      refine loop_ret ?_
      refine block_ret ?_
      refine then_ret ?_
      exact ret_int rfl (by rw [← h2, getP_drop ps i h0 (by omega), if_pos hc20])
    · try dsimp only at hc20
      refine TC.skip ?_
      refine block_normal ?_
      refine then_normal ?_
      refine TC.region ?_
      refine TL.run1 (pure_move rfl) rfl ?_
      refine TL.run1 (pure_add rfl rfl (mkI64 (by omega) (by omega))) rfl ?_
      refine TL.run1 (pure_assign rfl) rfl ?_
      refine TL.nil ?_
      refine loop_next (i + 1) ⟨by repeat (first | exact Agree.nil | refine Agree.cons rfl ?_), by repeat (first | exact List.nil_sublist _ | exact List.Sublist.refl _ | apply List.Sublist.cons_cons | apply List.Sublist.cons)⟩ ⟨by omega, by omega, ?_⟩ (by omega)
      rw [← h2, getP_drop ps i h0 (by omega), if_neg hc20]
  · try dsimp only at hc11
    refine TC.exit ?_
    refine then_exit ?_
    refine loop_exit ?_
    refine block_here ?_
    refine then_normal ?_
    refine TC.seq ?_
    refine TC.region ?_
    refine TL.run1 (pure_move rfl) rfl ?_
    refine TL.run1 (pure_assign rfl) rfl ?_
    refine TL.nil' ?_
    refine TC.ret ?_
    exact ret_int rfl (by rw [← h2, List.drop_eq_nil_of_le (by omega)]; rfl)
set_option maxRecDepth 100000 in
theorem span_spec (r : RowD) (hr : RowOk r) (cell : Int) (h0 : 0 ≤ cell) (h1 : cell < r.cells.length) : Fun Try.prog 19 [.agg (encR r), .v (.int .i64 cell)] (.tup [.v (.int .i64 (sAt (spansR r) cell).1), .v (.int .i64 (sAt (spansR r) cell).2)]) := by
  have hrl := hr.2.1
  refine Fun.enter (n := 31) (rs := [.tmp 4, .tmp 5]) Try.func19 rfl Try.ntmps19 Try.results19 rfl (fun w F => ?_)
  refine TC.seq ?_
  refine TC.region ?_
  refine TL.box rfl (.agg _) rfl (fun g2 => ?_)
  refine TL.run1 (pure_assign rfl) rfl ?_
  refine TL.run1 (pure_assign rfl) rfl ?_
  refine TL.nil' ?_
  refine TC.seq ?_
  refine TC.seq ?_
  refine TC.region ?_
  refine TL.run1 (pure_assign rfl) rfl ?_
  refine TL.nil' ?_
  refine TC.block ?_
  refine TC.loopX (X := Int) (fun i => [(1, .v (.int .i64 cell)), (2, .v (.pointer (some ⟨g2, 0, none⟩))), (4, .v (.int .i64 (spFrom r i))), (5, .v (.int .i64 (spTo r i))), (6, .v (.int .i64 i))]) (fun i => [.box g2 36 (encR r)]) (fun i => (0 ≤ i) ∧ (i ≤ cell + 1)) (fun i => (cell + 1 - i).toNat) (0) ⟨by skip; repeat (first | exact Agree.nil | refine Agree.cons rfl ?_), by skip; repeat (first | exact List.nil_sublist _ | exact List.Sublist.refl _ | apply List.Sublist.cons_cons | apply List.Sublist.cons)⟩ ?_ ?_
  · skip
    exact ⟨by omega, by omega⟩
  intro i
  rintro ⟨k0, k1⟩
  show TC _ _ _ (Env.of [(1, .v (.int .i64 cell)), (2, .v (.pointer (some ⟨g2, 0, none⟩))), (4, .v (.int .i64 (spFrom r i))), (5, .v (.int .i64 (spTo r i))), (6, .v (.int .i64 i))]) [.box g2 36 (encR r)]
  have hk := encCs_len r.cells
  refine TC.seq ?_
  refine TC.seq ?_
  refine TC.region ?_
  refine TL.run1 (pure_move rfl) rfl ?_
  refine TL.run1 (pure_move rfl) rfl ?_
  refine TL.run1 (pure_leq rfl rfl) rfl ?_
  refine TL.nil' ?_
  first | refine TC.condD rfl (fun hc10 => ?_) (fun hc10 => ?_) | refine TC.condN rfl (fun hc10 => ?_) (fun hc10 => ?_) | refine TC.cond rfl (fun hc10 => ?_) (fun hc10 => ?_)
  · try dsimp only at hc10
    refine TC.skip' ?_
    refine TC.seq ?_
    refine TC.block ?_
    refine TC.seq ?_
    refine TC.region ?_
    refine TL.run1 (pure_move rfl) rfl ?_
    refine TL.run1 (pure_assign rfl) rfl ?_
    refine TL.nil' ?_
    refine TC.seq ?_
    have hrow := encCs_get r.cells i k0 (by omega)
    have hok := hr.1 _ (cAt_mem r.cells i k0 (by omega))
    have hrg := sp_range r i k0 (by omega)
    have hsp : 1 ≤ max (getP (cAt r.cells i).props 60 1) 1 := by omega
    refine TC.region ?_
    first | refine TL.run1 (pure_fieldAddr Ty.f36_1 rfl (.succ (.succ (.succ (.succ (.succ (.zero _)))))) (List.cons_ne_nil _ _)) rfl ?_ | refine TL.run1 (pure_fieldAddr_own Ty.f36_1 rfl) rfl ?_
    first | refine TL.run1 (pure_load1 Ty.one34 rfl) rfl ?_ | refine TL.run1 (pure_load1_own Ty.one34 rfl (by repeat (first | exact List.Mem.head _ | apply List.Mem.tail)) (by repeat (first | exact DropR.zero _ | apply DropR.succ))) rfl ?_
    refine TL.run1 (pure_move rfl) rfl ?_
    refine TL.run1 (pure_indexAddr Ty.sl34 rfl rfl (by omega) (by assumption) (List.cons_ne_nil _ _)) rfl ?_
    first | refine TL.run1 (pure_fieldAddr Ty.f74_1 rfl (.succ (.zero _)) (List.cons_ne_nil _ _)) rfl ?_ | refine TL.run1 (pure_fieldAddr_own Ty.f74_1 rfl) rfl ?_
    first | refine TL.run1 (pure_fieldAddr Ty.f33_0 rfl (.zero _) (List.cons_ne_nil _ _)) rfl ?_ | refine TL.run1 (pure_fieldAddr_own Ty.f33_0 rfl) rfl ?_
    first | refine TL.run1 (pure_load1 Ty.one27 rfl) rfl ?_ | refine TL.run1 (pure_load1_own Ty.one27 rfl (by repeat (first | exact List.Mem.head _ | apply List.Mem.tail)) (by repeat (first | exact DropR.zero _ | apply DropR.succ))) rfl ?_
    refine TL.run1 (pure_call (get_spec _ _ _ hok.2) (.cons rfl (.cons rfl (.cons rfl .nil))) Try.call40) rfl ?_
    refine TL.run1 (pure_max rfl rfl) rfl ?_
    refine TL.run1 (pure_assign rfl) rfl ?_
    refine TL.nil' ?_
    refine TC.region ?_
    refine TL.run1 (pure_move rfl) rfl ?_
    refine TL.run1 (pure_move rfl) rfl ?_
    refine TL.run1 (pure_move rfl) rfl ?_
    refine TL.run1 (pure_sub rfl rfl (mkI64 (by omega) (by omega))) rfl ?_
    refine TL.run1 (pure_min rfl rfl) rfl ?_
    refine TL.run1 (pure_add rfl rfl (mkI64 (by omega) (by omega))) rfl ?_
    refine TL.run1 (pure_assign rfl) rfl ?_
    refine TL.nil ?_
    refine block_normal ?_
    refine then_normal ?_
    refine TC.region ?_
    refine TL.run1 (pure_move rfl) rfl ?_
    refine TL.run1 (pure_add rfl rfl (mkI64 (by omega) (by omega))) rfl ?_
    refine TL.run1 (pure_assign rfl) rfl ?_
    refine TL.nil ?_
    have hst := sAt_step r i k0 (by omega)
    refine loop_next (i + 1) ⟨?_, by repeat (first | exact List.nil_sublist _ | exact List.Sublist.refl _ | apply List.Sublist.cons_cons | apply List.Sublist.cons)⟩ ⟨by omega, by omega⟩ (by omega)
    rw [spTo_succ r i k0, spFrom_succ r i k0, hst]
    repeat (first | exact Agree.nil | refine Agree.cons rfl ?_)
  · try dsimp only at hc10
    refine TC.exit ?_
    refine then_exit ?_
    refine loop_exit ?_
    refine block_here ?_
    refine then_normal ?_
    refine TC.seq ?_
    refine TC.region ?_
    refine TL.run1 (pure_move rfl) rfl ?_
    refine TL.run1 (pure_move rfl) rfl ?_
    refine TL.run1 (pure_assign rfl) rfl ?_
    refine TL.run1 (pure_assign rfl) rfl ?_
    refine TL.nil' ?_
    refine TC.ret ?_
    exact ret2 (.inl rfl) rfl rfl (by rw [show i = cell + 1 by omega, spTo_succ r cell h0, spFrom_succ r cell h0])
set_option maxRecDepth 100000 in
theorem Columns_spec (rs : List RowD) (hr : TabOk rs) : Fun Try.prog 17 [.sl 6 (encRs rs)] (.v (.int .i64 (widthN rs rs.length))) := by
  have hrl0 := hr.2
  refine Fun.enter (n := 28) (rs := [.tmp 2]) Try.func17 rfl Try.ntmps17 Try.results17 rfl (fun w F => ?_)
  refine TC.seq ?_
  refine TC.region ?_
  refine TL.run1 (pure_assign rfl) rfl ?_
  refine TL.nil' ?_
  refine TC.seq ?_
  refine TC.region ?_
  refine TL.run1 (pure_assign rfl) rfl ?_
  refine TL.nil' ?_
  refine TC.seq ?_
  refine TC.seq ?_
  refine TC.region ?_
  refine TL.run1 (pure_move rfl) rfl ?_
  first | refine TL.run1 (pure_len Ty.sl22 rfl) rfl ?_ | refine TL.run1 (pure_len_row Ty.sl22 rfl (by repeat (first | exact List.Mem.head _ | apply List.Mem.tail))) rfl ?_ | refine TL.run1 (pure_len_nil Ty.sl22 rfl) rfl ?_
  refine TL.run1 (pure_move rfl) rfl ?_
  refine TL.nil' ?_
  refine TC.block ?_
  refine TC.loopX (X := Int) (fun i => [(3, .v (.int .i64 (widthN rs i.toNat))), (8, .sl 6 (encRs rs)), (9, .v (.int .i64 (encRs rs).length)), (10, .v (.int .i64 i))]) (fun i => []) (fun i => (0 ≤ i) ∧ (i ≤ rs.length)) (fun i => (rs.length - i).toNat) (0) ⟨by skip; repeat (first | exact Agree.nil | refine Agree.cons rfl ?_), by skip; repeat (first | exact List.nil_sublist _ | exact List.Sublist.refl _ | apply List.Sublist.cons_cons | apply List.Sublist.cons)⟩ ?_ ?_
  · skip
    exact ⟨by omega, by omega⟩
  intro i
  rintro ⟨h0, h1⟩
  show TC _ _ _ (Env.of [(3, .v (.int .i64 (widthN rs i.toNat))), (8, .sl 6 (encRs rs)), (9, .v (.int .i64 (encRs rs).length)), (10, .v (.int .i64 i))]) []
  have hk := encRs_len rs
  refine TC.seq ?_
  refine TC.region ?_
  refine TL.run1 (pure_lss rfl rfl) rfl ?_
  refine TL.nil' ?_
  refine TC.seq ?_
  first | refine TC.condD rfl (fun hc11 => ?_) (fun hc11 => ?_) | refine TC.condN rfl (fun hc11 => ?_) (fun hc11 => ?_) | refine TC.cond rfl (fun hc11 => ?_) (fun hc11 => ?_)
  · try dsimp only at hc11
    refine TC.skip' ?_
    refine TC.seq ?_
    refine TC.block ?_
    refine TC.seq ?_
    have hrow := encRs_get rs i h0 (by omega)
    have hro := hr.1 _ (rAt_mem rs i h0 (by omega))
    have hrl := hro.2.1
    refine TC.region ?_
    refine TL.run1 (pure_indexAddr Ty.sl22 rfl rfl (by omega) (by assumption) (List.cons_ne_nil _ _)) rfl ?_
    first | refine TL.run1 (pure_load Ty.agg36 rfl (.succ (.succ (.succ (.succ (.succ (.succ (.zero _)))))))) rfl ?_ | refine TL.run1 (pure_load_own Ty.agg36 rfl (by repeat (first | exact List.Mem.head _ | apply List.Mem.tail)) (by repeat (first | exact DropR.zero _ | apply DropR.succ)) (.succ (.succ (.succ (.succ (.succ (.succ (.zero _)))))))) rfl ?_
    refine TL.alloc Ty.zero36 rfl (fun g5 => ?_)
    refine TL.store rfl rfl (.agg _) Try.sizeOf36 rfl (by repeat (first | exact UpdR.here _ | apply UpdR.there)) (by repeat (first | exact PutR.nil _ | apply PutR.here | apply PutR.skip)) ?_
    refine TL.nil' ?_
    refine TC.seq ?_
    refine TC.region ?_
    first | refine TL.run1 (pure_load Ty.agg36 rfl (.succ (.succ (.succ (.succ (.succ (.succ (.zero _)))))))) rfl ?_ | refine TL.run1 (pure_load_own Ty.agg36 rfl (by repeat (first | exact List.Mem.head _ | apply List.Mem.tail)) (by repeat (first | exact DropR.zero _ | apply DropR.succ)) (.succ (.succ (.succ (.succ (.succ (.succ (.zero _)))))))) rfl ?_
    refine TL.run1 (pure_call (spans_spec _ (hr.1 _ (rAt_mem rs i (by omega) (by omega)))) (.cons rfl .nil) Try.call39) rfl ?_
    first | refine TL.run1 (pure_len Ty.sl44 rfl) rfl ?_ | refine TL.run1 (pure_len_row Ty.sl44 rfl (by repeat (first | exact List.Mem.head _ | apply List.Mem.tail))) rfl ?_ | refine TL.run1 (pure_len_nil Ty.sl44 rfl) rfl ?_
    refine TL.run1 (pure_move rfl) rfl ?_
    refine TL.nil' ?_
    refine TC.block ?_
    refine TC.loopX (X := Int) (fun k => [(3, .v (.int .i64 (max (widthN rs i.toNat) (spTo (rAt rs i) k)))), (8, .sl 6 (encRs rs)), (9, .v (.int .i64 (encRs rs).length)), (10, .v (.int .i64 i)), (15, .sl 2 (encS (spansR (rAt rs i)))), (16, .v (.int .i64 (encS (spansR (rAt rs i))).length)), (17, .v (.int .i64 k))]) (fun k => []) (fun k => (0 ≤ k) ∧ (k ≤ (rAt rs i).cells.length)) (fun k => ((rAt rs i).cells.length - k).toNat) (0) ⟨by rw [show max (widthN rs i.toNat) (spTo (rAt rs i) 0) = widthN rs i.toNat by (have := widthN_nonneg rs i.toNat; have : spTo (rAt rs i) 0 = 0 := rfl; omega)]; repeat (first | exact Agree.nil | refine Agree.cons rfl ?_), by skip; repeat (first | exact List.nil_sublist _ | exact List.Sublist.refl _ | apply List.Sublist.cons_cons | apply List.Sublist.cons)⟩ ?_ ?_
    · skip
      exact ⟨by omega, by omega⟩
    intro k
    rintro ⟨k0, k1⟩
    show TC _ _ _ (Env.of [(3, .v (.int .i64 (max (widthN rs i.toNat) (spTo (rAt rs i) k)))), (8, .sl 6 (encRs rs)), (9, .v (.int .i64 (encRs rs).length)), (10, .v (.int .i64 i)), (15, .sl 2 (encS (spansR (rAt rs i)))), (16, .v (.int .i64 (encS (spansR (rAt rs i))).length)), (17, .v (.int .i64 k))]) []
    have hl2 := encS_len (spansR (rAt rs i))
    have hl3 : (spansR (rAt rs i)).length = (rAt rs i).cells.length := spansFrom_len _ _
    refine TC.seq ?_
    refine TC.region ?_
    refine TL.run1 (pure_lss rfl rfl) rfl ?_
    refine TL.nil' ?_
    refine TC.seq ?_
    first | refine TC.condD rfl (fun hc18 => ?_) (fun hc18 => ?_) | refine TC.condN rfl (fun hc18 => ?_) (fun hc18 => ?_) | refine TC.cond rfl (fun hc18 => ?_) (fun hc18 => ?_)
    · try dsimp only at hc18
      refine TC.skip' ?_
      refine TC.seq ?_
      refine TC.block ?_
      refine TC.seq ?_
      have hs := encS_get (spansR (rAt rs i)) k k0 (by omega)
      refine TC.region ?_
      refine TL.run1 (pure_indexAddr Ty.sl44 rfl rfl (by omega) (by assumption) (List.cons_ne_nil _ _)) rfl ?_
      first | refine TL.run1 (pure_load Ty.agg51 rfl (.succ (.succ (.zero _)))) rfl ?_ | refine TL.run1 (pure_load_own Ty.agg51 rfl (by repeat (first | exact List.Mem.head _ | apply List.Mem.tail)) (by repeat (first | exact DropR.zero _ | apply DropR.succ)) (.succ (.succ (.zero _)))) rfl ?_
      refine TL.alloc Ty.zero51 rfl (fun g7 => ?_)
      refine TL.store rfl rfl (.agg _) Try.sizeOf51 rfl (by repeat (first | exact UpdR.here _ | apply UpdR.there)) (by repeat (first | exact PutR.nil _ | apply PutR.here | apply PutR.skip)) ?_
      refine TL.nil' ?_
      refine TC.region ?_
      refine TL.run1 (pure_move rfl) rfl ?_
      first | refine TL.run1 (pure_fieldAddr Ty.f51_1 rfl (.succ (.zero _)) (List.cons_ne_nil _ _)) rfl ?_ | refine TL.run1 (pure_fieldAddr_own Ty.f51_1 rfl) rfl ?_
      first | refine TL.run1 (pure_load1 Ty.one3 rfl) rfl ?_ | refine TL.run1 (pure_load1_own Ty.one3 rfl (by repeat (first | exact List.Mem.head _ | apply List.Mem.tail)) (by repeat (first | exact DropR.zero _ | apply DropR.succ))) rfl ?_
      refine TL.run1 (pure_max rfl rfl) rfl ?_
      refine TL.run1 (pure_assign rfl) rfl ?_
      refine TL.nil ?_
      refine block_normal ?_
      refine then_normal ?_
      refine TC.region ?_
      refine TL.run1 (pure_add rfl rfl (mkI64 (by omega) (by omega))) rfl ?_
      refine TL.run1 (pure_move rfl) rfl ?_
      refine TL.nil ?_
      refine loop_next (k + 1) ⟨?_, by repeat (first | exact List.nil_sublist _ | exact List.Sublist.refl _ | apply List.Sublist.cons_cons | apply List.Sublist.cons)⟩ ⟨by omega, by omega⟩ (by omega)
      have hm := spTo_mono (rAt rs i) k k0 (by omega)
      rw [spTo_succ _ k k0] at hm ⊢
      rw [show max (widthN rs i.toNat) (sAt (spansR (rAt rs i)) k).2 = max (max (widthN rs i.toNat) (spTo (rAt rs i) k)) (sAt (spansR (rAt rs i)) k).2 by omega]
      repeat (first | exact Agree.nil | refine Agree.cons rfl ?_)
    · try dsimp only at hc18
      refine TC.exit ?_
      refine then_exit ?_
      refine loop_exit ?_
      refine block_here ?_
      refine block_normal ?_
      refine then_normal ?_
      refine TC.region ?_
      refine TL.run1 (pure_add rfl rfl (mkI64 (by omega) (by omega))) rfl ?_
      refine TL.run1 (pure_move rfl) rfl ?_
      refine TL.nil ?_
      refine loop_next (i + 1) ⟨?_, by repeat (first | exact List.nil_sublist _ | exact List.Sublist.refl _ | apply List.Sublist.cons_cons | apply List.Sublist.cons)⟩ ⟨by omega, by omega⟩ (by omega)
      rw [show (i + 1).toNat = i.toNat + 1 by omega]
      have hw : widthN rs (i.toNat + 1) = max (widthN rs i.toNat) (spTo (rAt rs i) k) := by
        have hkk : k = (rAt rs i).cells.length := by omega
        rw [hkk]; show max _ (spTo (rAt rs (i.toNat : Int)) _) = _; rw [show ((i.toNat : Nat) : Int) = i by omega]
      rw [hw]
      repeat (first | exact Agree.nil | refine Agree.cons rfl ?_)
  · try dsimp only at hc11
    refine TC.exit ?_
    refine then_exit ?_
    refine loop_exit ?_
    refine block_here ?_
    refine then_normal ?_
    refine TC.seq ?_
    refine TC.region ?_
    refine TL.run1 (pure_move rfl) rfl ?_
    refine TL.run1 (pure_assign rfl) rfl ?_
    refine TL.nil' ?_
    refine TC.ret ?_
    exact ret_int rfl (by rw [show i.toNat = rs.length by omega])
set_option maxRecDepth 100000 in
theorem Width_spec (rs : List RowD) (hr : TabOk rs) : Fun Try.prog 18 [.sl 6 (encRs rs)] (.v (.int .i64 (widthN rs rs.length))) := by
  have hrl0 := hr.2
  refine Fun.enter (n := 36) (rs := [.tmp 2]) Try.func18 rfl Try.ntmps18 Try.results18 rfl (fun w F => ?_)
  refine TC.seq ?_
  refine TC.region ?_
  refine TL.run1 (pure_assign rfl) rfl ?_
  refine TL.nil' ?_
  refine TC.seq ?_
  refine TC.region ?_
  refine TL.run1 (pure_assign rfl) rfl ?_
  refine TL.nil' ?_
  refine TC.seq ?_
  refine TC.seq ?_
  refine TC.region ?_
  refine TL.run1 (pure_assign rfl) rfl ?_
  refine TL.nil' ?_
  refine TC.block ?_
  refine TC.loopX (X := Int) (fun i => [(0, .sl 6 (encRs rs)), (3, .v (.int .i64 (widthN rs i.toNat))), (4, .v (.int .i64 i))]) (fun i => []) (fun i => (0 ≤ i) ∧ (i ≤ rs.length)) (fun i => (rs.length - i).toNat) (0) ⟨by skip; repeat (first | exact Agree.nil | refine Agree.cons rfl ?_), by skip; repeat (first | exact List.nil_sublist _ | exact List.Sublist.refl _ | apply List.Sublist.cons_cons | apply List.Sublist.cons)⟩ ?_ ?_
  · skip
    exact ⟨by omega, by omega⟩
  intro i
  rintro ⟨h0, h1⟩
  show TC _ _ _ (Env.of [(0, .sl 6 (encRs rs)), (3, .v (.int .i64 (widthN rs i.toNat))), (4, .v (.int .i64 i))]) []
  have hk := encRs_len rs
  refine TC.seq ?_
  refine TC.seq ?_
  refine TC.region ?_
  refine TL.run1 (pure_move rfl) rfl ?_
  refine TL.run1 (pure_move rfl) rfl ?_
  first | refine TL.run1 (pure_len Ty.sl22 rfl) rfl ?_ | refine TL.run1 (pure_len_row Ty.sl22 rfl (by repeat (first | exact List.Mem.head _ | apply List.Mem.tail))) rfl ?_ | refine TL.run1 (pure_len_nil Ty.sl22 rfl) rfl ?_
  refine TL.run1 (pure_lss rfl rfl) rfl ?_
  refine TL.nil' ?_
  first | refine TC.condD rfl (fun hc11 => ?_) (fun hc11 => ?_) | refine TC.condN rfl (fun hc11 => ?_) (fun hc11 => ?_) | refine TC.cond rfl (fun hc11 => ?_) (fun hc11 => ?_)
  · try dsimp only at hc11
    refine TC.skip' ?_
    refine TC.seq ?_
    refine TC.block ?_
    refine TC.seq ?_
    have hrow := encRs_get rs i h0 (by omega)
    have hro := hr.1 _ (rAt_mem rs i h0 (by omega))
    have hrl := hro.2.1
    have hck := encCs_len (rAt rs i).cells
    have hw : widthN rs (i.toNat + 1) = max (widthN rs i.toNat) (spTo (rAt rs i) (rAt rs i).cells.length) := by (show max _ (spTo (rAt rs (i.toNat : Int)) _) = _; rw [show ((i.toNat : Nat) : Int) = i by omega])
    refine TC.region ?_
    refine TL.run1 (pure_move rfl) rfl ?_
    refine TL.run1 (pure_move rfl) rfl ?_
    refine TL.run1 (pure_indexAddr Ty.sl22 rfl rfl (by omega) (by assumption) (List.cons_ne_nil _ _)) rfl ?_
    first | refine TL.run1 (pure_fieldAddr Ty.f36_1 rfl (.succ (.succ (.succ (.succ (.succ (.zero _)))))) (List.cons_ne_nil _ _)) rfl ?_ | refine TL.run1 (pure_fieldAddr_own Ty.f36_1 rfl) rfl ?_
    first | refine TL.run1 (pure_load1 Ty.one34 rfl) rfl ?_ | refine TL.run1 (pure_load1_own Ty.one34 rfl (by repeat (first | exact List.Mem.head _ | apply List.Mem.tail)) (by repeat (first | exact DropR.zero _ | apply DropR.succ))) rfl ?_
    first | refine TL.run1 (pure_len Ty.sl34 rfl) rfl ?_ | refine TL.run1 (pure_len_row Ty.sl34 rfl (by repeat (first | exact List.Mem.head _ | apply List.Mem.tail))) rfl ?_ | refine TL.run1 (pure_len_nil Ty.sl34 rfl) rfl ?_
    refine TL.run1 (pure_assign rfl) rfl ?_
    refine TL.nil' ?_
    refine TC.seq ?_
    refine TC.region ?_
    refine TL.run1 (pure_move rfl) rfl ?_
    refine TL.run1 (pure_gtr rfl rfl) rfl ?_
    refine TL.nil' ?_
    first | refine TC.condD rfl (fun hc21 => ?_) (fun hc21 => ?_) | refine TC.condN rfl (fun hc21 => ?_) (fun hc21 => ?_) | refine TC.cond rfl (fun hc21 => ?_) (fun hc21 => ?_)
    · try dsimp only at hc21
      refine TC.seq ?_
      have hst := spTo_succ (rAt rs i) ((((rAt rs i).cells.length : Nat) : Int) - 1) (by omega)
      rw [show ((((rAt rs i).cells.length : Nat) : Int) - 1) + 1 = (rAt rs i).cells.length by omega] at hst
      rw [← hck] at hst
      refine TC.region ?_
      refine TL.run1 (pure_move rfl) rfl ?_
      refine TL.run1 (pure_move rfl) rfl ?_
      refine TL.run1 (pure_indexAddr Ty.sl22 rfl rfl (by omega) (by assumption) (List.cons_ne_nil _ _)) rfl ?_
      first | refine TL.run1 (pure_load Ty.agg36 rfl (.succ (.succ (.succ (.succ (.succ (.succ (.zero _)))))))) rfl ?_ | refine TL.run1 (pure_load_own Ty.agg36 rfl (by repeat (first | exact List.Mem.head _ | apply List.Mem.tail)) (by repeat (first | exact DropR.zero _ | apply DropR.succ)) (.succ (.succ (.succ (.succ (.succ (.succ (.zero _)))))))) rfl ?_
      refine TL.run1 (pure_move rfl) rfl ?_
      refine TL.run1 (pure_sub rfl rfl (mkI64 (by omega) (by omega))) rfl ?_
      refine TL.run1 (pure_call (span_spec _ hro (((encCs (rAt rs i).cells).length : Int) - 1) (by omega) (by omega)) (.cons rfl (.cons rfl .nil)) Try.call19) rfl ?_
      refine TL.run1 (pure_move rfl) rfl ?_
      refine TL.run1 (pure_extract rfl rfl) rfl ?_
      refine TL.run1 (pure_extract rfl rfl) rfl ?_
      refine TL.run1 (pure_assign rfl) rfl ?_
      refine TL.run1 (pure_assign rfl) rfl ?_
      refine TL.nil' ?_
      refine TC.region ?_
      refine TL.run1 (pure_move rfl) rfl ?_
      refine TL.run1 (pure_move rfl) rfl ?_
      refine TL.run1 (pure_max rfl rfl) rfl ?_
      refine TL.run1 (pure_assign rfl) rfl ?_
      refine TL.nil ?_
      refine block_normal ?_
      refine then_normal ?_
      refine TC.region ?_
      refine TL.run1 (pure_move rfl) rfl ?_
      refine TL.run1 (pure_add rfl rfl (mkI64 (by omega) (by omega))) rfl ?_
      refine TL.run1 (pure_assign rfl) rfl ?_
      refine TL.nil ?_
      refine loop_next (i + 1) ⟨?_, by repeat (first | exact List.nil_sublist _ | exact List.Sublist.refl _ | apply List.Sublist.cons_cons | apply List.Sublist.cons)⟩ ⟨by omega, by omega⟩ (by omega)
      rw [show (i + 1).toNat = i.toNat + 1 by omega, hw]
      rw [← hck, hst]
      repeat (first | exact Agree.nil | refine Agree.cons rfl ?_)
    · try dsimp only at hc21
      refine TC.skip ?_
      refine block_normal ?_
      refine then_normal ?_
      refine TC.region ?_
      refine TL.run1 (pure_move rfl) rfl ?_
      refine TL.run1 (pure_add rfl rfl (mkI64 (by omega) (by omega))) rfl ?_
      refine TL.run1 (pure_assign rfl) rfl ?_
      refine TL.nil ?_
      refine loop_next (i + 1) ⟨?_, by repeat (first | exact List.nil_sublist _ | exact List.Sublist.refl _ | apply List.Sublist.cons_cons | apply List.Sublist.cons)⟩ ⟨by omega, by omega⟩ (by omega)
      rw [show (i + 1).toNat = i.toNat + 1 by omega, hw]
      rw [show (rAt rs i).cells.length = 0 by omega, show max (widthN rs i.toNat) (spTo (rAt rs i) ((0 : Nat) : Int)) = widthN rs i.toNat by (have := widthN_nonneg rs i.toNat; have : spTo (rAt rs i) ((0 : Nat) : Int) = 0 := rfl; omega)]
      repeat (first | exact Agree.nil | refine Agree.cons rfl ?_)
  · try dsimp only at hc11
    refine TC.exit ?_
    refine then_exit ?_
    refine loop_exit ?_
    refine block_here ?_
    refine then_normal ?_
    refine TC.seq ?_
    refine TC.region ?_
    refine TL.run1 (pure_move rfl) rfl ?_
    refine TL.run1 (pure_assign rfl) rfl ?_
    refine TL.nil' ?_
    refine TC.ret ?_
    exact ret_int rfl (by rw [show i.toNat = rs.length by omega])
def OkP (ps : List (Int × Int)) : Prop := ∀ j : Int, 1 ≤ j → j < ps.length → (pAt ps (j - 1)).1 < (pAt ps j).1
def OkC (c : CellD) : Prop := c.props.length ≤ 8 ∧ c.flow.length ≤ 8 ∧ OkP c.props
def OkR (r : RowD) : Prop := r.cells.length ≤ 40 ∧ ∀ k : Int, 0 ≤ k → k < r.cells.length → OkC (cAt r.cells k)
def SmallT (rs : List RowD) : Prop := rs.length ≤ 10 ∧ ∀ i : Int, 0 ≤ i → i < rs.length → OkR (rAt rs i)
open Classical in
noncomputable def smallB (rs : List RowD) : Bool := decide (SmallT rs)
theorem smallB_iff (rs : List RowD) : smallB rs = true ↔ SmallT rs := by unfold smallB; simp
theorem OkP.inc {ps : List (Int × Int)} (h : OkP ps) : Inc (keysP ps) := by
  have key : ∀ (ps : List (Int × Int)), (∀ n : Nat, n + 1 < ps.length → (ps.getD n (0, 0)).1 < (ps.getD (n + 1) (0, 0)).1) → Inc (keysP ps) := by
    intro ps
    induction ps with
    | nil => intro _; exact List.Pairwise.nil
    | cons p ps ih =>
      intro h
      have ih := ih (fun n hn => by have := h (n + 1) (by simpa using hn); simpa using this)
      refine List.Pairwise.cons ?_ ih
      cases ps with
      | nil => intro x hx; simp at hx
      | cons q qs =>
        have h0 := h 0 (by simp)
        simp only [List.getD_cons_zero, List.getD_cons_succ] at h0
        intro x hx
        rcases List.mem_cons.1 hx with rfl | hx
        · exact h0
        · exact Int.lt_trans h0 ((List.pairwise_cons.1 ih).1 x hx)
  refine key ps fun n hn => ?_
  have := h (n + 1) (by omega) (by omega)
  unfold pAt at this
  rw [show ((n : Int) + 1 - 1).toNat = n by omega, show ((n : Int) + 1).toNat = n + 1 by omega] at this
  exact this
theorem SmallT.ok {rs : List RowD} (h : SmallT rs) : TabOk rs := by
  refine ⟨fun r hr => ?_, by have := h.1; omega⟩
  obtain ⟨i, hi, rfl⟩ := List.mem_iff_getElem.1 hr
  have h1 := h.2 i (by omega) (by omega)
  have e : rAt rs i = rs[i] := by simp [rAt, hi]
  rw [e] at h1
  refine ⟨fun c hc => ?_, by have := h1.1; omega, by have := h1.1; omega⟩
  obtain ⟨k, hk, rfl⟩ := List.mem_iff_getElem.1 hc
  have h2 := h1.2 k (by omega) (by omega)
  have e2 : cAt rs[i].cells k = rs[i].cells[k] := by simp [cAt, hk]
  rw [e2] at h2
  exact ⟨h2.2.2.inc, by have := h2.1; omega⟩
set_option maxRecDepth 100000 in
theorem Small_spec (rs : List RowD) : Fun Try.prog 13 [.sl 6 (encRs rs)] (.v (.bool (smallB rs))) := by
  refine Fun.enter (n := 77) (rs := [.tmp 2]) Try.func13 rfl Try.ntmps13 Try.results13 rfl (fun w F => ?_)
  have hk := encRs_len rs
  refine TC.seq ?_
  refine TC.region ?_
  refine TL.run1 (pure_assign rfl) rfl ?_
  refine TL.nil' ?_
  refine TC.seq ?_
  refine TC.seq ?_
  refine TC.region ?_
  refine TL.run1 (pure_move rfl) rfl ?_
  first | refine TL.run1 (pure_len Ty.sl22 rfl) rfl ?_ | refine TL.run1 (pure_len_row Ty.sl22 rfl (by repeat (first | exact List.Mem.head _ | apply List.Mem.tail))) rfl ?_ | refine TL.run1 (pure_len_nil Ty.sl22 rfl) rfl ?_
  refine TL.run1 (pure_gtr rfl rfl) rfl ?_
  refine TL.nil' ?_
  first | refine TC.condD rfl (fun hc9 => ?_) (fun hc9 => ?_) | refine TC.condN rfl (fun hc9 => ?_) (fun hc9 => ?_) | refine TC.cond rfl (fun hc9 => ?_) (fun hc9 => ?_)
  · try dsimp only at hc9
    refine TC.seq ?_
    refine TC.region ?_
    refine TL.run1 (pure_assign rfl) rfl ?_
    refine TL.nil' ?_
    refine TC.ret ?_
    refine then_ret ?_
    exact ret_bool rfl (by (symm; rw [Bool.eq_false_iff]; intro hb; have hS := (smallB_iff rs).1 hb; have := hS.1; omega))
  · try dsimp only at hc9
    refine TC.skip' ?_
    refine TC.seq ?_
    refine TC.seq ?_
    refine TC.region ?_
    refine TL.run1 (pure_assign rfl) rfl ?_
    refine TL.nil' ?_
    refine TC.block ?_
    refine TC.loopX (X := Int) (fun i => [(0, .sl 6 (encRs rs)), (3, .v (.int .i64 i))]) (fun i => []) (fun i => (0 ≤ i) ∧ (i ≤ rs.length) ∧ (∀ i0 : Int, 0 ≤ i0 → i0 < i → OkR (rAt rs i0))) (fun i => (rs.length - i).toNat) (0) ⟨by skip; repeat (first | exact Agree.nil | refine Agree.cons rfl ?_), by skip; repeat (first | exact List.nil_sublist _ | exact List.Sublist.refl _ | apply List.Sublist.cons_cons | apply List.Sublist.cons)⟩ ?_ ?_
    · skip
      exact ⟨by omega, by omega, fun i0 _ _ => by omega⟩
    intro i
    rintro ⟨h0, h1, h2⟩
    show TC _ _ _ (Env.of [(0, .sl 6 (encRs rs)), (3, .v (.int .i64 i))]) []
    have hk := encRs_len rs
    refine TC.seq ?_
    refine TC.seq ?_
    refine TC.region ?_
    refine TL.run1 (pure_move rfl) rfl ?_
    refine TL.run1 (pure_move rfl) rfl ?_
    first | refine TL.run1 (pure_len Ty.sl22 rfl) rfl ?_ | refine TL.run1 (pure_len_row Ty.sl22 rfl (by repeat (first | exact List.Mem.head _ | apply List.Mem.tail))) rfl ?_ | refine TL.run1 (pure_len_nil Ty.sl22 rfl) rfl ?_
    refine TL.run1 (pure_lss rfl rfl) rfl ?_
    refine TL.nil' ?_
    first | refine TC.condD rfl (fun hc13 => ?_) (fun hc13 => ?_) | refine TC.condN rfl (fun hc13 => ?_) (fun hc13 => ?_) | refine TC.cond rfl (fun hc13 => ?_) (fun hc13 => ?_)
    · try dsimp only at hc13
      refine TC.skip' ?_
      refine TC.seq ?_
      refine TC.block ?_
      refine TC.seq ?_
      refine TC.seq ?_
      have hrow := encRs_get rs i h0 (by omega)
      have hck := encCs_len (rAt rs i).cells
      refine TC.region ?_
      refine TL.run1 (pure_move rfl) rfl ?_
      refine TL.run1 (pure_move rfl) rfl ?_
      refine TL.run1 (pure_indexAddr Ty.sl22 rfl rfl (by omega) (by assumption) (List.cons_ne_nil _ _)) rfl ?_
      first | refine TL.run1 (pure_fieldAddr Ty.f36_1 rfl (.succ (.succ (.succ (.succ (.succ (.zero _)))))) (List.cons_ne_nil _ _)) rfl ?_ | refine TL.run1 (pure_fieldAddr_own Ty.f36_1 rfl) rfl ?_
      first | refine TL.run1 (pure_load1 Ty.one34 rfl) rfl ?_ | refine TL.run1 (pure_load1_own Ty.one34 rfl (by repeat (first | exact List.Mem.head _ | apply List.Mem.tail)) (by repeat (first | exact DropR.zero _ | apply DropR.succ))) rfl ?_
      first | refine TL.run1 (pure_len Ty.sl34 rfl) rfl ?_ | refine TL.run1 (pure_len_row Ty.sl34 rfl (by repeat (first | exact List.Mem.head _ | apply List.Mem.tail))) rfl ?_ | refine TL.run1 (pure_len_nil Ty.sl34 rfl) rfl ?_
      refine TL.run1 (pure_gtr rfl rfl) rfl ?_
      refine TL.nil' ?_
      first | refine TC.condD rfl (fun hc22 => ?_) (fun hc22 => ?_) | refine TC.condN rfl (fun hc22 => ?_) (fun hc22 => ?_) | refine TC.cond rfl (fun hc22 => ?_) (fun hc22 => ?_)
      · try dsimp only at hc22
        refine TC.seq ?_
        refine TC.region ?_
        refine TL.run1 (pure_assign rfl) rfl ?_
        refine TL.nil' ?_
        refine TC.ret ?_
        refine then_ret ?_
        refine block_ret ?_
        refine then_ret ?_
        refine loop_ret ?_
        refine block_ret ?_
        refine then_ret ?_
        exact ret_bool rfl (by (symm; rw [Bool.eq_false_iff]; intro hb; have hS := (smallB_iff rs).1 hb; have := (hS.2 i h0 (by omega)).1; omega))
      · try dsimp only at hc22
        refine TC.skip' ?_
        refine TC.seq ?_
        refine TC.region ?_
        refine TL.run1 (pure_assign rfl) rfl ?_
        refine TL.nil' ?_
        refine TC.block ?_
        refine TC.loopX (X := Int) (fun k => [(0, .sl 6 (encRs rs)), (3, .v (.int .i64 i)), (4, .v (.int .i64 k))]) (fun k => []) (fun k => (0 ≤ k) ∧ (k ≤ (rAt rs i).cells.length) ∧ (∀ k0 : Int, 0 ≤ k0 → k0 < k → OkC (cAt (rAt rs i).cells k0))) (fun k => ((rAt rs i).cells.length - k).toNat) (0) ⟨by skip; repeat (first | exact Agree.nil | refine Agree.cons rfl ?_), by skip; repeat (first | exact List.nil_sublist _ | exact List.Sublist.refl _ | apply List.Sublist.cons_cons | apply List.Sublist.cons)⟩ ?_ ?_
        · skip
          exact ⟨by omega, by omega, fun k0 _ _ => by omega⟩
        intro k
        rintro ⟨k0, k1, k2⟩
        show TC _ _ _ (Env.of [(0, .sl 6 (encRs rs)), (3, .v (.int .i64 i)), (4, .v (.int .i64 k))]) []
        refine TC.seq ?_
        refine TC.seq ?_
        refine TC.region ?_
        refine TL.run1 (pure_move rfl) rfl ?_
        refine TL.run1 (pure_move rfl) rfl ?_
        refine TL.run1 (pure_move rfl) rfl ?_
        refine TL.run1 (pure_indexAddr Ty.sl22 rfl rfl (by omega) (by assumption) (List.cons_ne_nil _ _)) rfl ?_
        first | refine TL.run1 (pure_fieldAddr Ty.f36_1 rfl (.succ (.succ (.succ (.succ (.succ (.zero _)))))) (List.cons_ne_nil _ _)) rfl ?_ | refine TL.run1 (pure_fieldAddr_own Ty.f36_1 rfl) rfl ?_
        first | refine TL.run1 (pure_load1 Ty.one34 rfl) rfl ?_ | refine TL.run1 (pure_load1_own Ty.one34 rfl (by repeat (first | exact List.Mem.head _ | apply List.Mem.tail)) (by repeat (first | exact DropR.zero _ | apply DropR.succ))) rfl ?_
        first | refine TL.run1 (pure_len Ty.sl34 rfl) rfl ?_ | refine TL.run1 (pure_len_row Ty.sl34 rfl (by repeat (first | exact List.Mem.head _ | apply List.Mem.tail))) rfl ?_ | refine TL.run1 (pure_len_nil Ty.sl34 rfl) rfl ?_
        refine TL.run1 (pure_lss rfl rfl) rfl ?_
        refine TL.nil' ?_
        first | refine TC.condD rfl (fun hc30 => ?_) (fun hc30 => ?_) | refine TC.condN rfl (fun hc30 => ?_) (fun hc30 => ?_) | refine TC.cond rfl (fun hc30 => ?_) (fun hc30 => ?_)
        · try dsimp only at hc30
          refine TC.skip' ?_
          refine TC.seq ?_
          refine TC.block ?_
          refine TC.seq ?_
          have hcell := encCs_get (rAt rs i).cells k k0 (by omega)
          have hpk := encP_len (cAt (rAt rs i).cells k).props
          refine TC.region ?_
          refine TL.run1 (pure_move rfl) rfl ?_
          refine TL.run1 (pure_move rfl) rfl ?_
          refine TL.run1 (pure_indexAddr Ty.sl22 rfl rfl (by omega) (by assumption) (List.cons_ne_nil _ _)) rfl ?_
          first | refine TL.run1 (pure_fieldAddr Ty.f36_1 rfl (.succ (.succ (.succ (.succ (.succ (.zero _)))))) (List.cons_ne_nil _ _)) rfl ?_ | refine TL.run1 (pure_fieldAddr_own Ty.f36_1 rfl) rfl ?_
          first | refine TL.run1 (pure_load1 Ty.one34 rfl) rfl ?_ | refine TL.run1 (pure_load1_own Ty.one34 rfl (by repeat (first | exact List.Mem.head _ | apply List.Mem.tail)) (by repeat (first | exact DropR.zero _ | apply DropR.succ))) rfl ?_
          refine TL.run1 (pure_move rfl) rfl ?_
          refine TL.run1 (pure_indexAddr Ty.sl34 rfl rfl (by omega) (by assumption) (List.cons_ne_nil _ _)) rfl ?_
          first | refine TL.run1 (pure_fieldAddr Ty.f74_1 rfl (.succ (.zero _)) (List.cons_ne_nil _ _)) rfl ?_ | refine TL.run1 (pure_fieldAddr_own Ty.f74_1 rfl) rfl ?_
          first | refine TL.run1 (pure_fieldAddr Ty.f33_0 rfl (.zero _) (List.cons_ne_nil _ _)) rfl ?_ | refine TL.run1 (pure_fieldAddr_own Ty.f33_0 rfl) rfl ?_
          first | refine TL.run1 (pure_load1 Ty.one27 rfl) rfl ?_ | refine TL.run1 (pure_load1_own Ty.one27 rfl (by repeat (first | exact List.Mem.head _ | apply List.Mem.tail)) (by repeat (first | exact DropR.zero _ | apply DropR.succ))) rfl ?_
          refine TL.run1 (pure_assign rfl) rfl ?_
          refine TL.nil' ?_
          refine TC.seq ?_
          refine TC.regionCut [43, 44, 45, 46, 47, 48, 49, 50, 51, 52, 53, 54, 55, 56, 57, 58] 58 ((cAt (rAt rs i).cells k).props.length > 8 ∨ (cAt (rAt rs i).cells k).flow.length > 8) ?_ ?_
          · skip
            refine TL.run1 (pure_move rfl) rfl ?_
            first | refine TL.run1 (pure_len Ty.sl27 rfl) rfl ?_ | refine TL.run1 (pure_len_row Ty.sl27 rfl (by repeat (first | exact List.Mem.head _ | apply List.Mem.tail))) rfl ?_ | refine TL.run1 (pure_len_nil Ty.sl27 rfl) rfl ?_
            refine TL.run1 (pure_gtr rfl rfl) rfl ?_
            refine TL.run1 (pure_move rfl) rfl ?_
            first | refine TL.splitP 46 rfl (fun hg46 => ?_) (fun hg46 => ?_) | refine TL.split 46 rfl (fun hg46 => ?_) (fun hg46 => ?_)
            · try dsimp only at hg46
              refine TL.passG rfl rfl rfl rfl ?_
              refine TL.passG rfl rfl rfl rfl ?_
              refine TL.passG rfl rfl rfl rfl ?_
              refine TL.passG rfl rfl rfl rfl ?_
              refine TL.passG rfl rfl rfl rfl ?_
              refine TL.passG rfl rfl rfl rfl ?_
              refine TL.passG rfl rfl rfl rfl ?_
              refine TL.passG rfl rfl rfl rfl ?_
              refine TL.passG rfl rfl rfl rfl ?_
              refine TL.passG rfl rfl rfl rfl ?_
              refine TL.passG rfl rfl rfl rfl ?_
              refine TL.run1 (pure_pick_true rfl rfl) rfl ?_
              refine TL.cutEnd (by repeat (first | exact Same.refl _ _ | refine Same.put rfl ?_)) rfl ?_
              first | (simp only [decide_eq_true_eq, Bool.false_eq_true, false_iff, true_iff, iff_true, iff_false, Bool.not_eq_true]; omega) | (simp_all; done) | (simp_all; omega) | grind
            · try dsimp only at hg46
              refine TL.runG rfl rfl (pure_move rfl) rfl ?_
              refine TL.runG rfl rfl (pure_move rfl) rfl ?_
              refine TL.runG rfl rfl (pure_indexAddr Ty.sl22 rfl rfl (by omega) (by assumption) (List.cons_ne_nil _ _)) rfl ?_
              first | refine TL.runG rfl rfl (pure_fieldAddr Ty.f36_1 rfl (.succ (.succ (.succ (.succ (.succ (.zero _)))))) (List.cons_ne_nil _ _)) rfl ?_ | refine TL.runG rfl rfl (pure_fieldAddr_own Ty.f36_1 rfl) rfl ?_
              first | refine TL.runG rfl rfl (pure_load1 Ty.one34 rfl) rfl ?_ | refine TL.runG rfl rfl (pure_load1_own Ty.one34 rfl (by repeat (first | exact List.Mem.head _ | apply List.Mem.tail)) (by repeat (first | exact DropR.zero _ | apply DropR.succ))) rfl ?_
              refine TL.runG rfl rfl (pure_move rfl) rfl ?_
              refine TL.runG rfl rfl (pure_indexAddr Ty.sl34 rfl rfl (by omega) (by assumption) (List.cons_ne_nil _ _)) rfl ?_
              first | refine TL.runG rfl rfl (pure_fieldAddr Ty.f74_2 rfl (.succ (.succ (.succ (.succ (.succ (.succ (.zero _))))))) (List.cons_ne_nil _ _)) rfl ?_ | refine TL.runG rfl rfl (pure_fieldAddr_own Ty.f74_2 rfl) rfl ?_
              first | refine TL.runG rfl rfl (pure_load1 Ty.one72 rfl) rfl ?_ | refine TL.runG rfl rfl (pure_load1_own Ty.one72 rfl (by repeat (first | exact List.Mem.head _ | apply List.Mem.tail)) (by repeat (first | exact DropR.zero _ | apply DropR.succ))) rfl ?_
              first | refine TL.runG rfl rfl (pure_len Ty.sl72 rfl) rfl ?_ | refine TL.runG rfl rfl (pure_len_row Ty.sl72 rfl (by repeat (first | exact List.Mem.head _ | apply List.Mem.tail))) rfl ?_ | refine TL.runG rfl rfl (pure_len_nil Ty.sl72 rfl) rfl ?_
              refine TL.runG rfl rfl (pure_gtr rfl rfl) rfl ?_
              refine TL.run1 (pure_pick_false rfl rfl) rfl ?_
              refine TL.cutEnd (by repeat (first | exact Same.refl _ _ | refine Same.put rfl ?_)) rfl ?_
              first | (simp only [decide_eq_true_eq, Bool.false_eq_true, false_iff, true_iff, iff_true, iff_false, Bool.not_eq_true]; omega) | (simp_all; done) | (simp_all; omega) | grind
          first | refine TC.condD rfl (fun hc58 => ?_) (fun hc58 => ?_) | refine TC.condN rfl (fun hc58 => ?_) (fun hc58 => ?_) | refine TC.cond rfl (fun hc58 => ?_) (fun hc58 => ?_)
          · try dsimp only at hc58
            refine TC.seq ?_
            refine TC.region ?_
            refine TL.run1 (pure_assign rfl) rfl ?_
            refine TL.nil' ?_
            refine TC.ret ?_
            refine then_ret ?_
            refine block_ret ?_
            refine then_ret ?_
            refine loop_ret ?_
            refine block_ret ?_
            refine block_ret ?_
            refine then_ret ?_
            refine loop_ret ?_
            refine block_ret ?_
            refine then_ret ?_
            exact ret_bool rfl (by (symm; rw [Bool.eq_false_iff]; intro hb; have hS := (smallB_iff rs).1 hb; have := (hS.2 i h0 (by omega)).2 k k0 (by omega); have h3 := this.1; have h4 := this.2.1; omega))
          · try dsimp only at hc58
            refine TC.skip' ?_
            refine TC.seq ?_
            refine TC.region ?_
            refine TL.run1 (pure_assign rfl) rfl ?_
            refine TL.nil' ?_
            refine TC.block ?_
            refine TC.loopX (X := Int) (fun j => [(0, .sl 6 (encRs rs)), (3, .v (.int .i64 i)), (4, .v (.int .i64 k)), (5, .sl 2 (encP (cAt (rAt rs i).cells k).props)), (6, .v (.int .i64 j))]) (fun j => []) (fun j => (1 ≤ j) ∧ (j ≤ max 1 (cAt (rAt rs i).cells k).props.length) ∧ (∀ j0 : Int, 1 ≤ j0 → j0 < j → (pAt (cAt (rAt rs i).cells k).props (j0 - 1)).1 < (pAt (cAt (rAt rs i).cells k).props j0).1)) (fun j => ((cAt (rAt rs i).cells k).props.length - j).toNat) (1) ⟨by skip; repeat (first | exact Agree.nil | refine Agree.cons rfl ?_), by skip; repeat (first | exact List.nil_sublist _ | exact List.Sublist.refl _ | apply List.Sublist.cons_cons | apply List.Sublist.cons)⟩ ?_ ?_
            · skip
              exact ⟨by omega, by omega, fun j0 _ _ => by omega⟩
            intro j
            rintro ⟨j0, j1, j2⟩
            show TC _ _ _ (Env.of [(0, .sl 6 (encRs rs)), (3, .v (.int .i64 i)), (4, .v (.int .i64 k)), (5, .sl 2 (encP (cAt (rAt rs i).cells k).props)), (6, .v (.int .i64 j))]) []
            refine TC.seq ?_
            refine TC.seq ?_
            refine TC.region ?_
            refine TL.run1 (pure_move rfl) rfl ?_
            refine TL.run1 (pure_move rfl) rfl ?_
            first | refine TL.run1 (pure_len Ty.sl27 rfl) rfl ?_ | refine TL.run1 (pure_len_row Ty.sl27 rfl (by repeat (first | exact List.Mem.head _ | apply List.Mem.tail))) rfl ?_ | refine TL.run1 (pure_len_nil Ty.sl27 rfl) rfl ?_
            refine TL.run1 (pure_lss rfl rfl) rfl ?_
            refine TL.nil' ?_
            first | refine TC.condD rfl (fun hc62 => ?_) (fun hc62 => ?_) | refine TC.condN rfl (fun hc62 => ?_) (fun hc62 => ?_) | refine TC.cond rfl (fun hc62 => ?_) (fun hc62 => ?_)
            · try dsimp only at hc62
              refine TC.skip' ?_
              refine TC.seq ?_
              refine TC.block ?_
              refine TC.seq ?_
              have hp1 := encP_get (cAt (rAt rs i).cells k).props j (by omega) (by omega)
              have hp2 := encP_get (cAt (rAt rs i).cells k).props (j - 1) (by omega) (by omega)
              refine TC.draw Ty.follows (by kernel_rfl) ?_
              refine TD.run1 (pure_move rfl) rfl ?_
              refine TD.run1 (pure_move rfl) rfl ?_
              refine TD.run1 (pure_indexAddr Ty.sl27 rfl rfl (by omega) (by assumption) (List.cons_ne_nil _ _)) rfl ?_
              first | refine TD.run1 (pure_fieldAddr Ty.f77_0 rfl (.zero _) (List.cons_ne_nil _ _)) rfl ?_ | refine TD.run1 (pure_fieldAddr_own Ty.f77_0 rfl) rfl ?_
              first | refine TD.run1 (pure_load1 Ty.one3 rfl) rfl ?_ | refine TD.run1 (pure_load1_own Ty.one3 rfl (by repeat (first | exact List.Mem.head _ | apply List.Mem.tail)) (by repeat (first | exact DropR.zero _ | apply DropR.succ))) rfl ?_
              refine TD.run1 (pure_move rfl) rfl ?_
              refine TD.run1 (pure_move rfl) rfl ?_
              refine TD.run1 (pure_sub rfl rfl (mkI64 (by omega) (by omega))) rfl ?_
              refine TD.run1 (pure_indexAddr Ty.sl27 rfl rfl (by omega) (by assumption) (List.cons_ne_nil _ _)) rfl ?_
              first | refine TD.run1 (pure_fieldAddr Ty.f77_0 rfl (.zero _) (List.cons_ne_nil _ _)) rfl ?_ | refine TD.run1 (pure_fieldAddr_own Ty.f77_0 rfl) rfl ?_
              first | refine TD.run1 (pure_load1 Ty.one3 rfl) rfl ?_ | refine TD.run1 (pure_load1_own Ty.one3 rfl (by repeat (first | exact List.Mem.head _ | apply List.Mem.tail)) (by repeat (first | exact DropR.zero _ | apply DropR.succ))) rfl ?_
              refine TD.run1 (pure_leq rfl rfl) rfl ?_
              refine TD.nil' ?_
              first | refine TC.condD rfl (fun hc76 => ?_) (fun hc76 => ?_) | refine TC.condN rfl (fun hc76 => ?_) (fun hc76 => ?_) | refine TC.cond rfl (fun hc76 => ?_) (fun hc76 => ?_)
              · try dsimp only at hc76
                refine TC.seq ?_
                refine TC.region ?_
                refine TL.run1 (pure_assign rfl) rfl ?_
                refine TL.nil' ?_
                refine TC.ret ?_
                refine block_ret ?_
                refine then_ret ?_
                refine loop_ret ?_
                refine block_ret ?_
                refine block_ret ?_
                refine then_ret ?_
                refine loop_ret ?_
                refine block_ret ?_
                refine block_ret ?_
                refine then_ret ?_
                refine loop_ret ?_
                refine block_ret ?_
                refine then_ret ?_
                exact ret_bool rfl (by (symm; rw [Bool.eq_false_iff]; intro hb; have hS := (smallB_iff rs).1 hb; have := ((hS.2 i h0 (by omega)).2 k k0 (by omega)).2.2 j (by omega) (by omega); omega))
              · try dsimp only at hc76
                refine TC.skip ?_
                refine block_normal ?_
                refine then_normal ?_
                refine TC.region ?_
                refine TL.run1 (pure_move rfl) rfl ?_
                refine TL.run1 (pure_add rfl rfl (mkI64 (by omega) (by omega))) rfl ?_
                refine TL.run1 (pure_assign rfl) rfl ?_
                refine TL.nil ?_
                refine loop_next (j + 1) ⟨by repeat (first | exact Agree.nil | refine Agree.cons rfl ?_), by repeat (first | exact List.nil_sublist _ | exact List.Sublist.refl _ | apply List.Sublist.cons_cons | apply List.Sublist.cons)⟩ ⟨by omega, by omega, fun j0 a b => ?_⟩ (by omega)
                rcases Int.lt_or_eq_of_le (show j0 ≤ j by omega) with h | h
                · exact j2 j0 a h
                · rw [h]; omega
            · try dsimp only at hc62
              refine TC.exit ?_
              refine then_exit ?_
              refine loop_exit ?_
              refine block_here ?_
              refine block_normal ?_
              refine then_normal ?_
              refine TC.region ?_
              refine TL.run1 (pure_move rfl) rfl ?_
              refine TL.run1 (pure_add rfl rfl (mkI64 (by omega) (by omega))) rfl ?_
              refine TL.run1 (pure_assign rfl) rfl ?_
              refine TL.nil ?_
              refine loop_next (k + 1) ⟨by repeat (first | exact Agree.nil | refine Agree.cons rfl ?_), by repeat (first | exact List.nil_sublist _ | exact List.Sublist.refl _ | apply List.Sublist.cons_cons | apply List.Sublist.cons)⟩ ⟨by omega, by omega, fun k0 a b => ?_⟩ (by omega)
              rcases Int.lt_or_eq_of_le (show k0 ≤ k by omega) with h | h
              · exact k2 k0 a h
              · rw [h]; exact ⟨by omega, by omega, fun j0 a b => j2 j0 a (by omega)⟩
        · try dsimp only at hc30
          refine TC.exit ?_
          refine then_exit ?_
          refine loop_exit ?_
          refine block_here ?_
          refine block_normal ?_
          refine then_normal ?_
          refine TC.region ?_
          refine TL.run1 (pure_move rfl) rfl ?_
          refine TL.run1 (pure_add rfl rfl (mkI64 (by omega) (by omega))) rfl ?_
          refine TL.run1 (pure_assign rfl) rfl ?_
          refine TL.nil ?_
          refine loop_next (i + 1) ⟨by repeat (first | exact Agree.nil | refine Agree.cons rfl ?_), by repeat (first | exact List.nil_sublist _ | exact List.Sublist.refl _ | apply List.Sublist.cons_cons | apply List.Sublist.cons)⟩ ⟨by omega, by omega, fun i0 a b => ?_⟩ (by omega)
          rcases Int.lt_or_eq_of_le (show i0 ≤ i by omega) with h | h
          · exact h2 i0 a h
          · rw [h]; exact ⟨by omega, fun k0 a b => k2 k0 a (by omega)⟩
    · try dsimp only at hc13
      refine TC.exit ?_
      refine then_exit ?_
      refine loop_exit ?_
      refine block_here ?_
      refine then_normal ?_
      refine TC.seq ?_
      refine TC.region ?_
      refine TL.run1 (pure_assign rfl) rfl ?_
      refine TL.nil' ?_
      refine TC.ret ?_
      exact ret_bool rfl ((smallB_iff rs).2 ⟨by omega, fun i0 a b => h2 i0 a (by omega)⟩).symm
def setStep (key value : Int) (s : List (Int × Int) × Bool) (p : Int × Int) : List (Int × Int) × Bool :=
  let s1 := if s.2 = false ∧ p.1 ≥ key then (s.1 ++ [(key, value)], true) else s
  if p.1 ≠ key then (s1.1 ++ [p], s1.2) else s1
def setTo (ps : List (Int × Int)) (key value nn : Int) : Nat → List (Int × Int) × Bool
  | 0 => ([], decide (value = nn))
  | i + 1 => setStep key value (setTo ps key value nn i) (pAt ps i)
def setR (ps : List (Int × Int)) (key value nn : Int) : List (Int × Int) :=
  if (setTo ps key value nn ps.length).2 = false then (setTo ps key value nn ps.length).1 ++ [(key, value)] else (setTo ps key value nn ps.length).1
theorem setTo_len (ps : List (Int × Int)) (key value nn : Int) : ∀ i, (setTo ps key value nn i).1.length ≤ 2 * i
  | 0 => by simp [setTo]
  | i + 1 => by
    have := setTo_len ps key value nn i
    unfold setTo setStep
    dsimp only
    split <;> split <;> simp <;> omega
theorem encP_snoc (l : List (Int × Int)) (a b : Int) : encP (l ++ [(a, b)]) = encP l ++ [[.v (.int .i64 a), .v (.int .i64 b)]] := by simp [encP]
theorem encP_each (l : List (Int × Int)) : ∀ x ∈ encP l, x.length = 2 := by
  intro x hx; simp only [encP, List.mem_map] at hx; obtain ⟨s, _, rfl⟩ := hx; rfl
set_option maxRecDepth 100000 in
theorem set_spec (ps : List (Int × Int)) (key value nn : Int) (hl : ps.length ≤ 1000) : Fun Try.prog 49 [.sl 2 (encP ps), .v (.int .i64 key), .v (.int .i64 value), .v (.int .i64 nn)] (.sl 2 (encP (setR ps key value nn))) := by
  refine Fun.enterF (n := 61) (rs := [.tmp 8]) Try.func49 rfl Try.ntmps49 Try.results49 rfl (fun w F => ?_)
  refine TC.seq ?_
  refine TC.region ?_
  refine TL.run1 (pure_assign rfl) rfl ?_
  refine TL.nil' ?_
  refine TC.seq ?_
  refine TC.region ?_
  refine TL.run1 (pure_assign rfl) rfl ?_
  refine TL.nil' ?_
  refine TC.seq ?_
  refine TC.region ?_
  refine TL.run1 (pure_move rfl) rfl ?_
  refine TL.run1 (pure_move rfl) rfl ?_
  refine TL.run1 (pure_eql rfl rfl) rfl ?_
  refine TL.run1 (pure_assign rfl) rfl ?_
  refine TL.nil' ?_
  refine TC.seq ?_
  refine TC.seq ?_
  refine TC.nilrow 77 2 ?_
  refine TC.region ?_
  refine TL.run1 (pure_assign rfl) rfl ?_
  refine TL.nil' ?_
  refine TC.block ?_
  refine TC.loopX (X := Int × Value) (fun (i, v) => [(0, .sl 2 (encP ps)), (1, .v (.int .i64 key)), (2, .v (.int .i64 value)), (9, .v v), (10, .v (.bool (setTo ps key value nn i.toNat).2)), (11, .v (.int .i64 i))]) (fun (i, v) => [.row v 77 2 (encP (setTo ps key value nn i.toNat).1)]) (fun (i, v) => (0 ≤ i) ∧ (i ≤ ps.length)) (fun (i, v) => (ps.length - i).toNat) (0, .slice none 0 0) ⟨by skip; repeat (first | exact Agree.nil | refine Agree.cons rfl ?_), by skip; repeat (first | exact List.nil_sublist _ | exact List.Sublist.refl _ | apply List.Sublist.cons_cons | apply List.Sublist.cons)⟩ ?_ ?_
  · skip
    exact ⟨by omega, by omega⟩
  rintro ⟨i, v⟩
  rintro ⟨h0, h1⟩
  show TC _ _ _ (Env.of [(0, .sl 2 (encP ps)), (1, .v (.int .i64 key)), (2, .v (.int .i64 value)), (9, .v v), (10, .v (.bool (setTo ps key value nn i.toNat).2)), (11, .v (.int .i64 i))]) [.row v 77 2 (encP (setTo ps key value nn i.toNat).1)]
  have hk := encP_len ps
  have hsl := setTo_len ps key value nn i.toNat
  have hsk := encP_len (setTo ps key value nn i.toNat).1
  refine TC.seq ?_
  refine TC.seq ?_
  refine TC.region ?_
  refine TL.run1 (pure_move rfl) rfl ?_
  refine TL.run1 (pure_move rfl) rfl ?_
  first | refine TL.run1 (pure_len Ty.sl27 rfl) rfl ?_ | refine TL.run1 (pure_len_row Ty.sl27 rfl (by repeat (first | exact List.Mem.head _ | apply List.Mem.tail))) rfl ?_ | refine TL.run1 (pure_len_nil Ty.sl27 rfl) rfl ?_
  refine TL.run1 (pure_lss rfl rfl) rfl ?_
  refine TL.nil' ?_
  first | refine TC.condD rfl (fun hc18 => ?_) (fun hc18 => ?_) | refine TC.condN rfl (fun hc18 => ?_) (fun hc18 => ?_) | refine TC.cond rfl (fun hc18 => ?_) (fun hc18 => ?_)
  · try dsimp only at hc18
    refine TC.skip' ?_
    refine TC.seq ?_
    refine TC.block ?_
    refine TC.seq ?_
    have hrow := encP_get ps i h0 (by omega)
    have hst : setTo ps key value nn (i + 1).toNat = setStep key value (setTo ps key value nn i.toNat) (pAt ps i) := by (rw [show (i + 1).toNat = i.toNat + 1 by omega]; show setStep _ _ _ (pAt ps (i.toNat : Int)) = _; rw [show ((i.toNat : Nat) : Int) = i by omega])
    refine TC.regionCut [21, 22, 23, 24, 25, 26, 27, 28, 29, 30, 31] 31 ((setTo ps key value nn i.toNat).2 = false ∧ (pAt ps i).1 ≥ key) ?_ ?_
    · skip
      refine TL.run1 (pure_move rfl) rfl ?_
      refine TL.run1 (pure_not rfl) rfl ?_
      refine TL.run1 (pure_move rfl) rfl ?_
      first | refine TL.splitP 23 rfl (fun hg23 => ?_) (fun hg23 => ?_) | refine TL.split 23 rfl (fun hg23 => ?_) (fun hg23 => ?_)
      · try dsimp only at hg23
        refine TL.runG rfl rfl (pure_move rfl) rfl ?_
        refine TL.runG rfl rfl (pure_move rfl) rfl ?_
        refine TL.runG rfl rfl (pure_indexAddr Ty.sl27 rfl rfl (by omega) (by assumption) (List.cons_ne_nil _ _)) rfl ?_
        first | refine TL.runG rfl rfl (pure_fieldAddr Ty.f77_0 rfl (.zero _) (List.cons_ne_nil _ _)) rfl ?_ | refine TL.runG rfl rfl (pure_fieldAddr_own Ty.f77_0 rfl) rfl ?_
        first | refine TL.runG rfl rfl (pure_load1 Ty.one3 rfl) rfl ?_ | refine TL.runG rfl rfl (pure_load1_own Ty.one3 rfl (by repeat (first | exact List.Mem.head _ | apply List.Mem.tail)) (by repeat (first | exact DropR.zero _ | apply DropR.succ))) rfl ?_
        refine TL.runG rfl rfl (pure_move rfl) rfl ?_
        refine TL.runG rfl rfl (pure_geq rfl rfl) rfl ?_
        refine TL.run1 (pure_pick_true rfl rfl) rfl ?_
        refine TL.cutEnd (by repeat (first | exact Same.refl _ _ | refine Same.put rfl ?_)) rfl ?_
        first | (simp only [decide_eq_true_eq, Bool.false_eq_true, false_iff, true_iff, iff_true, iff_false, Bool.not_eq_true]; omega) | (simp_all; done) | (simp_all; omega) | grind
      · try dsimp only at hg23
        refine TL.passG rfl rfl rfl rfl ?_
        refine TL.passG rfl rfl rfl rfl ?_
        refine TL.passG rfl rfl rfl rfl ?_
        refine TL.passG rfl rfl rfl rfl ?_
        refine TL.passG rfl rfl rfl rfl ?_
        refine TL.passG rfl rfl rfl rfl ?_
        refine TL.passG rfl rfl rfl rfl ?_
        refine TL.run1 (pure_pick_false rfl rfl) rfl ?_
        refine TL.cutEnd (by repeat (first | exact Same.refl _ _ | refine Same.put rfl ?_)) rfl ?_
        first | (simp only [decide_eq_true_eq, Bool.false_eq_true, false_iff, true_iff, iff_true, iff_false, Bool.not_eq_true]; omega) | (simp_all; done) | (simp_all; omega) | grind
    first | refine TC.condD rfl (fun hc31 => ?_) (fun hc31 => ?_) | refine TC.condN rfl (fun hc31 => ?_) (fun hc31 => ?_) | refine TC.cond rfl (fun hc31 => ?_) (fun hc31 => ?_)
    · try dsimp only at hc31
      refine TC.seq ?_
      refine TC.region ?_
      refine TL.run1 (pure_move rfl) rfl ?_
      refine TL.run1 (pure_move rfl) rfl ?_
      refine TL.run1 (pure_move rfl) rfl ?_
      refine TL.run1 (pure_build Ty.pl77 Ty.zero77 (.cons rfl rfl (.one rfl) rfl (.here (.nil _)) (.cons rfl rfl (.one rfl) rfl (.skip (.here (.nil _))) (.nil _)))) rfl ?_
      refine TL.run1 (pure_buildSlice (xs := [.tmp 35]) Ty.app27 (by decide) rfl rfl (.cons rfl (.agg _) rfl .nil)) rfl ?_
      refine TL.append Ty.app27 rfl rfl (by intro _; repeat (first | exact UpdR.here _ | apply UpdR.there)) (by simp only [List.length_append, List.length_cons, List.length_nil]; omega) (by simp only [List.length_append, List.length_cons, List.length_nil]; omega) rfl (fun v37 hv37 => ?_)
      refine TL.run1 (pure_assign rfl) rfl ?_
      refine TL.nil' ?_
      refine TC.region ?_
      refine TL.run1 (pure_assign rfl) rfl ?_
      refine TL.nil' ?_
      refine TC.seq ?_
      refine TC.region ?_
      refine TL.run1 (pure_move rfl) rfl ?_
      refine TL.run1 (pure_move rfl) rfl ?_
      refine TL.run1 (pure_indexAddr Ty.sl27 rfl rfl (by omega) (by assumption) (List.cons_ne_nil _ _)) rfl ?_
      first | refine TL.run1 (pure_fieldAddr Ty.f77_0 rfl (.zero _) (List.cons_ne_nil _ _)) rfl ?_ | refine TL.run1 (pure_fieldAddr_own Ty.f77_0 rfl) rfl ?_
      first | refine TL.run1 (pure_load1 Ty.one3 rfl) rfl ?_ | refine TL.run1 (pure_load1_own Ty.one3 rfl (by repeat (first | exact List.Mem.head _ | apply List.Mem.tail)) (by repeat (first | exact DropR.zero _ | apply DropR.succ))) rfl ?_
      refine TL.run1 (pure_move rfl) rfl ?_
      refine TL.run1 (pure_neq rfl rfl) rfl ?_
      refine TL.nil' ?_
      first | refine TC.condD rfl (fun hc44 => ?_) (fun hc44 => ?_) | refine TC.condN rfl (fun hc44 => ?_) (fun hc44 => ?_) | refine TC.cond rfl (fun hc44 => ?_) (fun hc44 => ?_)
      · try dsimp only at hc44
        refine TC.region ?_
        refine TL.run1 (pure_move rfl) rfl ?_
        refine TL.run1 (pure_move rfl) rfl ?_
        refine TL.run1 (pure_move rfl) rfl ?_
        refine TL.run1 (pure_indexAddr Ty.sl27 rfl rfl (by omega) (by assumption) (List.cons_ne_nil _ _)) rfl ?_
        first | refine TL.run1 (pure_load Ty.agg77 rfl (.succ (.succ (.zero _)))) rfl ?_ | refine TL.run1 (pure_load_own Ty.agg77 rfl (by repeat (first | exact List.Mem.head _ | apply List.Mem.tail)) (by repeat (first | exact DropR.zero _ | apply DropR.succ)) (.succ (.succ (.zero _)))) rfl ?_
        refine TL.run1 (pure_buildSlice (xs := [.tmp 49]) Ty.app27 (by decide) rfl rfl (.cons rfl (.agg _) rfl .nil)) rfl ?_
        refine TL.append Ty.app27 rfl rfl (by intro _; repeat (first | exact UpdR.here _ | apply UpdR.there)) (by simp only [List.length_append, List.length_cons, List.length_nil]; omega) (by simp only [List.length_append, List.length_cons, List.length_nil]; omega) rfl (fun v51 hv51 => ?_)
        refine TL.run1 (pure_assign rfl) rfl ?_
        refine TL.nil ?_
        refine block_normal ?_
        refine then_normal ?_
        refine TC.region ?_
        refine TL.run1 (pure_move rfl) rfl ?_
        refine TL.run1 (pure_add rfl rfl (mkI64 (by omega) (by omega))) rfl ?_
        refine TL.run1 (pure_assign rfl) rfl ?_
        refine TL.nil ?_
        refine loop_next (i + 1, v51) ⟨?_, ?_⟩ ⟨by omega, by omega⟩ (by dsimp only; omega)
        · dsimp only; rw [hst]; unfold setStep; dsimp only
          rw [if_pos hc31, if_pos hc44]
          repeat (first | exact Agree.nil | refine Agree.cons rfl ?_)
        · dsimp only; rw [hst]; unfold setStep; dsimp only
          rw [if_pos hc31, if_pos hc44]
          rw [show (pAt ps i) = ((pAt ps i).1, (pAt ps i).2) from rfl]
          rw [encP_snoc, encP_snoc]
          repeat (first | exact List.nil_sublist _ | exact List.Sublist.refl _ | apply List.Sublist.cons_cons | apply List.Sublist.cons)
      · try dsimp only at hc44
        refine TC.skip ?_
        refine block_normal ?_
        refine then_normal ?_
        refine TC.region ?_
        refine TL.run1 (pure_move rfl) rfl ?_
        refine TL.run1 (pure_add rfl rfl (mkI64 (by omega) (by omega))) rfl ?_
        refine TL.run1 (pure_assign rfl) rfl ?_
        refine TL.nil ?_
        refine loop_next (i + 1, v37) ⟨?_, ?_⟩ ⟨by omega, by omega⟩ (by dsimp only; omega)
        · dsimp only; rw [hst]; unfold setStep; dsimp only
          rw [if_pos hc31, if_neg hc44]
          repeat (first | exact Agree.nil | refine Agree.cons rfl ?_)
        · dsimp only; rw [hst]; unfold setStep; dsimp only
          rw [if_pos hc31, if_neg hc44]
          rw [encP_snoc]
          repeat (first | exact List.nil_sublist _ | exact List.Sublist.refl _ | apply List.Sublist.cons_cons | apply List.Sublist.cons)
    · try dsimp only at hc31
      refine TC.skip' ?_
      refine TC.seq ?_
      refine TC.region ?_
      refine TL.run1 (pure_move rfl) rfl ?_
      refine TL.run1 (pure_move rfl) rfl ?_
      refine TL.run1 (pure_indexAddr Ty.sl27 rfl rfl (by omega) (by assumption) (List.cons_ne_nil _ _)) rfl ?_
      first | refine TL.run1 (pure_fieldAddr Ty.f77_0 rfl (.zero _) (List.cons_ne_nil _ _)) rfl ?_ | refine TL.run1 (pure_fieldAddr_own Ty.f77_0 rfl) rfl ?_
      first | refine TL.run1 (pure_load1 Ty.one3 rfl) rfl ?_ | refine TL.run1 (pure_load1_own Ty.one3 rfl (by repeat (first | exact List.Mem.head _ | apply List.Mem.tail)) (by repeat (first | exact DropR.zero _ | apply DropR.succ))) rfl ?_
      refine TL.run1 (pure_move rfl) rfl ?_
      refine TL.run1 (pure_neq rfl rfl) rfl ?_
      refine TL.nil' ?_
      first | refine TC.condD rfl (fun hc44 => ?_) (fun hc44 => ?_) | refine TC.condN rfl (fun hc44 => ?_) (fun hc44 => ?_) | refine TC.cond rfl (fun hc44 => ?_) (fun hc44 => ?_)
      · try dsimp only at hc44
        refine TC.region ?_
        refine TL.run1 (pure_move rfl) rfl ?_
        refine TL.run1 (pure_move rfl) rfl ?_
        refine TL.run1 (pure_move rfl) rfl ?_
        refine TL.run1 (pure_indexAddr Ty.sl27 rfl rfl (by omega) (by assumption) (List.cons_ne_nil _ _)) rfl ?_
        first | refine TL.run1 (pure_load Ty.agg77 rfl (.succ (.succ (.zero _)))) rfl ?_ | refine TL.run1 (pure_load_own Ty.agg77 rfl (by repeat (first | exact List.Mem.head _ | apply List.Mem.tail)) (by repeat (first | exact DropR.zero _ | apply DropR.succ)) (.succ (.succ (.zero _)))) rfl ?_
        refine TL.run1 (pure_buildSlice (xs := [.tmp 49]) Ty.app27 (by decide) rfl rfl (.cons rfl (.agg _) rfl .nil)) rfl ?_
        refine TL.append Ty.app27 rfl rfl (by intro _; repeat (first | exact UpdR.here _ | apply UpdR.there)) (by simp only [List.length_append, List.length_cons, List.length_nil]; omega) (by simp only [List.length_append, List.length_cons, List.length_nil]; omega) rfl (fun v51 hv51 => ?_)
        refine TL.run1 (pure_assign rfl) rfl ?_
        refine TL.nil ?_
        refine block_normal ?_
        refine then_normal ?_
        refine TC.region ?_
        refine TL.run1 (pure_move rfl) rfl ?_
        refine TL.run1 (pure_add rfl rfl (mkI64 (by omega) (by omega))) rfl ?_
        refine TL.run1 (pure_assign rfl) rfl ?_
        refine TL.nil ?_
        refine loop_next (i + 1, v51) ⟨?_, ?_⟩ ⟨by omega, by omega⟩ (by dsimp only; omega)
        · dsimp only; rw [hst]; unfold setStep; dsimp only
          rw [if_neg hc31, if_pos hc44]
          repeat (first | exact Agree.nil | refine Agree.cons rfl ?_)
        · dsimp only; rw [hst]; unfold setStep; dsimp only
          rw [if_neg hc31, if_pos hc44]
          rw [show (pAt ps i) = ((pAt ps i).1, (pAt ps i).2) from rfl]
          rw [encP_snoc]
          repeat (first | exact List.nil_sublist _ | exact List.Sublist.refl _ | apply List.Sublist.cons_cons | apply List.Sublist.cons)
      · try dsimp only at hc44
        refine TC.skip ?_
        refine block_normal ?_
        refine then_normal ?_
        refine TC.region ?_
        refine TL.run1 (pure_move rfl) rfl ?_
        refine TL.run1 (pure_add rfl rfl (mkI64 (by omega) (by omega))) rfl ?_
        refine TL.run1 (pure_assign rfl) rfl ?_
        refine TL.nil ?_
        refine loop_next (i + 1, v) ⟨?_, ?_⟩ ⟨by omega, by omega⟩ (by dsimp only; omega)
        · dsimp only; rw [hst]; unfold setStep; dsimp only
          rw [if_neg hc31, if_neg hc44]
          repeat (first | exact Agree.nil | refine Agree.cons rfl ?_)
        · dsimp only; rw [hst]; unfold setStep; dsimp only
          rw [if_neg hc31, if_neg hc44]
          repeat (first | exact List.nil_sublist _ | exact List.Sublist.refl _ | apply List.Sublist.cons_cons | apply List.Sublist.cons)
  · try dsimp only at hc18
    refine TC.exit ?_
    refine then_exit ?_
    refine loop_exit ?_
    refine block_here ?_
    refine then_normal ?_
    refine TC.seq ?_
    refine TC.seq ?_
    rw [show i.toNat = ps.length by omega]
    have hsl2 := setTo_len ps key value nn ps.length
    have hsk2 := encP_len (setTo ps key value nn ps.length).1
    refine TC.region ?_
    refine TL.run1 (pure_move rfl) rfl ?_
    refine TL.run1 (pure_not rfl) rfl ?_
    refine TL.nil' ?_
    first | refine TC.condD rfl (fun hc53 => ?_) (fun hc53 => ?_) | refine TC.condN rfl (fun hc53 => ?_) (fun hc53 => ?_) | refine TC.cond rfl (fun hc53 => ?_) (fun hc53 => ?_)
    · try dsimp only at hc53
      refine TC.region ?_
      refine TL.run1 (pure_move rfl) rfl ?_
      refine TL.run1 (pure_move rfl) rfl ?_
      refine TL.run1 (pure_move rfl) rfl ?_
      refine TL.run1 (pure_build Ty.pl77 Ty.zero77 (.cons rfl rfl (.one rfl) rfl (.here (.nil _)) (.cons rfl rfl (.one rfl) rfl (.skip (.here (.nil _))) (.nil _)))) rfl ?_
      refine TL.run1 (pure_buildSlice (xs := [.tmp 57]) Ty.app27 (by decide) rfl rfl (.cons rfl (.agg _) rfl .nil)) rfl ?_
      refine TL.append Ty.app27 rfl rfl (by intro _; repeat (first | exact UpdR.here _ | apply UpdR.there)) (by simp only [List.length_append, List.length_cons, List.length_nil]; omega) (by simp only [List.length_append, List.length_cons, List.length_nil]; omega) rfl (fun v59 hv59 => ?_)
      refine TL.run1 (pure_assign rfl) rfl ?_
      refine TL.nil' ?_
      refine TC.seq ?_
      refine TC.region ?_
      refine TL.run1 (pure_move rfl) rfl ?_
      refine TL.run1 (pure_assign rfl) rfl ?_
      refine TL.nil' ?_
      refine TC.ret ?_
      refine retF_row rfl (.head _) (by decide) (show ∀ x ∈ encP _ ++ [[D.v (.int .i64 key), D.v (.int .i64 value)]], x.length = 2 from by rw [← encP_snoc]; exact encP_each _) ?_
      unfold setR
      rw [if_pos (by simpa using hc53), encP_snoc]
      rfl
    · try dsimp only at hc53
      refine TC.skip' ?_
      refine TC.seq ?_
      refine TC.region ?_
      refine TL.run1 (pure_move rfl) rfl ?_
      refine TL.run1 (pure_assign rfl) rfl ?_
      refine TL.nil' ?_
      refine TC.ret ?_
      refine retF_row rfl (.head _) (by decide) (encP_each _) ?_
      unfold setR
      rw [if_neg (by simpa using hc53)]
def cellK (id span merge : Int) : CellD := ⟨.v (.int .i64 id), setR (setR [] 60 span 1) 61 merge 0, .v (.int .i64 0), .v (.int .i64 0), .v (.slice none 0 0), .v (.slice none 0 0), []⟩
set_option maxRecDepth 100000 in
theorem cell0_spec (id span merge : Int) (hl : (setR [] 60 span 1).length ≤ 1000) : Fun Try.prog 36 [.v (.int .i64 id), .v (.int .i64 span), .v (.int .i64 merge)] (.agg [.v (.int .i64 id), .sl 2 (encP (setR (setR [] 60 span 1) 61 merge 0)), .v (.int .i64 0), .v (.int .i64 0), .v (.slice none 0 0), .v (.slice none 0 0), .v (.slice none 0 0)]) := by
  refine Fun.enter (n := 14) (rs := [.cell 6 74]) Try.func36 rfl Try.ntmps36 Try.results36 rfl (fun w F => ?_)
  refine TC.seq ?_
  refine TC.region ?_
  refine TL.alloc Ty.zero74 rfl (fun g6 => ?_)
  refine TL.nil' ?_
  refine TC.seq ?_
  refine TC.region ?_
  refine TL.run1 (pure_move rfl) rfl ?_
  refine TL.run1 (pure_move rfl) rfl ?_
  first | refine TL.run1 (pure_call ((set_spec [] 60 span 1 (by decide)).le (.cons (.nil 2) (.refl _)) (.refl _)) (.cons rfl (.cons rfl (.cons rfl (.cons rfl .nil)))) Try.call49) rfl ?_ | refine TL.run1 (pure_call (set_spec (setR [] 60 span 1) 61 merge 0 hl) (.cons rfl (.cons rfl (.cons rfl (.cons rfl .nil)))) Try.call49) rfl ?_
  refine TL.run1 (pure_move rfl) rfl ?_
  first | refine TL.run1 (pure_call ((set_spec [] 60 span 1 (by decide)).le (.cons (.nil 2) (.refl _)) (.refl _)) (.cons rfl (.cons rfl (.cons rfl (.cons rfl .nil)))) Try.call49) rfl ?_ | refine TL.run1 (pure_call (set_spec (setR [] 60 span 1) 61 merge 0 hl) (.cons rfl (.cons rfl (.cons rfl (.cons rfl .nil)))) Try.call49) rfl ?_
  refine TL.run1 (pure_build Ty.pl33 Ty.zero33 (.cons rfl rfl (.one rfl) rfl (.here (.nil _)) (.nil _))) rfl ?_
  refine TL.run1 (pure_build Ty.pl74 Ty.zero74 (.cons rfl rfl (.one rfl) rfl (.here (.nil _)) (.cons rfl rfl (.agg _) rfl (.skip (.here (.here (.here (.here (.here (.nil _))))))) (.nil _)))) rfl ?_
  refine TL.store rfl rfl (.agg _) Try.sizeOf74 rfl (by repeat (first | exact UpdR.here _ | apply UpdR.there)) (by repeat (first | exact PutR.nil _ | apply PutR.here | apply PutR.skip)) ?_
  refine TL.nil' ?_
  refine TC.ret ?_
  exact ret_cell (.inl rfl) Ty.agg74 rfl (.head _) rfl rfl
theorem cell_spec (id span merge : Int) (hl : (setR [] 60 span 1).length ≤ 1000) : Fun Try.prog 36 [.v (.int .i64 id), .v (.int .i64 span), .v (.int .i64 merge)] (.agg (encC (cellK id span merge))) :=
  (cell0_spec id span merge hl).le (.refl _) (.agg (.cons (.refl _) (.cons (.refl _) (.cons (.refl _) (.cons (.refl _) (.cons (.refl _) (.cons (.refl _) (.cons (.nil 11) .nil))))))))
set_option maxRecDepth 100000 in
theorem Rects_spec (rs : List RowD) (hr : ∀ r ∈ rs, RowOk r) (hl : rs.length ≤ 2000) : Fun Try.prog 14 [.sl 6 (encRs rs)] (.sl 6 (encQs (layRects rs))) := by
  refine Fun.enter (n := 6) (rs := [.tmp 2]) Try.func14 rfl Try.ntmps14 Try.results14 rfl (fun w F => ?_)
  refine TC.seq ?_
  refine TC.region ?_
  refine TL.run1 (pure_assign rfl) rfl ?_
  refine TL.nil' ?_
  refine TC.seq ?_
  refine TC.region ?_
  refine TL.run1 (pure_move rfl) rfl ?_
  refine TL.run1 (pure_call (lay_spec rs hr hl) (.cons rfl .nil) Try.call37) rfl ?_
  refine TL.run1 (pure_field Ty.fv81_1 Ty.one25 rfl rfl) rfl ?_
  refine TL.run1 (pure_assign rfl) rfl ?_
  refine TL.nil' ?_
  refine TC.ret ?_
  exact ret_sl rfl rfl
def rowK (cs : List CellD) : RowD := ⟨.v (.slice none 0 0), .v (.int .i64 0), .v (.int .i64 0), .v (.slice none 0 0), .v (.slice none 0 0), cs⟩
def rowsK : List RowD := [rowK [cellK 1 2 1, cellK 2 1 0], rowK [cellK 3 2 2, cellK 4 1 0]]
theorem rowsK_cells : ∀ c ∈ [cellK 1 2 1, cellK 2 1 0, cellK 3 2 2, cellK 4 1 0], CellOk c := by
  intro c hc
  simp only [List.mem_cons, List.not_mem_nil, or_false] at hc
  rcases hc with rfl | rfl | rfl | rfl <;> exact ⟨by unfold Inc; decide, by decide⟩
theorem rowsK_ok : TabOk rowsK := by
  refine ⟨fun r hr => ?_, by decide⟩
  simp only [rowsK, List.mem_cons, List.not_mem_nil, or_false] at hr
  rcases hr with rfl | rfl
  · exact ⟨fun c hc => rowsK_cells c (by simp only [rowK, List.mem_cons, List.not_mem_nil, or_false] at hc ⊢; rcases hc with rfl | rfl <;> simp), by simp [rowK], by simp [rowK]⟩
  · exact ⟨fun c hc => rowsK_cells c (by simp only [rowK, List.mem_cons, List.not_mem_nil, or_false] at hc ⊢; rcases hc with rfl | rfl <;> simp), by simp [rowK], by simp [rowK]⟩
theorem layK : layRects rowsK = [⟨0, 0, 0, 0, 2, 2⟩, ⟨0, 1, 0, 2, 1, 3⟩, ⟨1, 1, 1, 2, 2, 3⟩] := by decide
theorem widthK : widthN rowsK 2 = 3 := by decide
theorem RectsK_spec : Fun Try.prog 14 [.sl 6 (encRs rowsK)] (.sl 6 (encQs [⟨0, 0, 0, 0, 2, 2⟩, ⟨0, 1, 0, 2, 1, 3⟩, ⟨1, 1, 1, 2, 2, 3⟩])) := layK ▸ Rects_spec rowsK rowsK_ok.1 (by decide)
theorem ColumnsK_spec : Fun Try.prog 17 [.sl 6 (encRs rowsK)] (.v (.int .i64 3)) := widthK ▸ Columns_spec rowsK rowsK_ok
set_option maxRecDepth 100000 in
theorem known_spec  : Fun Try.prog 12 [] (.v (.bool true)) := by
  refine Fun.enter (n := 38) (rs := [.tmp 0]) Try.func12 rfl Try.ntmps12 Try.results12 rfl (fun w F => ?_)
  have hln : (encQs [⟨0, 0, 0, 0, 2, 2⟩, ⟨0, 1, 0, 2, 1, 3⟩, ⟨1, 1, 1, 2, 2, 3⟩]).length = 3 := rfl
  refine TC.seq ?_
  refine TC.region ?_
  refine TL.run1 (pure_assign rfl) rfl ?_
  refine TL.nil' ?_
  refine TC.seq ?_
  refine TC.region ?_
  refine TL.run1 (pure_call (cell_spec _ _ _ (by decide)) (.cons rfl (.cons rfl (.cons rfl .nil))) Try.call36) rfl ?_
  refine TL.run1 (pure_call (cell_spec _ _ _ (by decide)) (.cons rfl (.cons rfl (.cons rfl .nil))) Try.call36) rfl ?_
  refine TL.run1 (pure_buildSlice (xs := [.tmp 3, .tmp 4]) Ty.app34 (by decide) rfl rfl (.cons rfl (.agg _) rfl (.cons rfl (.agg _) rfl .nil))) rfl ?_
  refine TL.run1 (pure_build Ty.pl36 Ty.zero36 (.cons rfl rfl (.one rfl) rfl (.skip (.skip (.skip (.skip (.skip (.here (.nil _))))))) (.nil _))) rfl ?_
  refine TL.run1 (pure_call (cell_spec _ _ _ (by decide)) (.cons rfl (.cons rfl (.cons rfl .nil))) Try.call36) rfl ?_
  refine TL.run1 (pure_call (cell_spec _ _ _ (by decide)) (.cons rfl (.cons rfl (.cons rfl .nil))) Try.call36) rfl ?_
  refine TL.run1 (pure_buildSlice (xs := [.tmp 7, .tmp 8]) Ty.app34 (by decide) rfl rfl (.cons rfl (.agg _) rfl (.cons rfl (.agg _) rfl .nil))) rfl ?_
  refine TL.run1 (pure_build Ty.pl36 Ty.zero36 (.cons rfl rfl (.one rfl) rfl (.skip (.skip (.skip (.skip (.skip (.here (.nil _))))))) (.nil _))) rfl ?_
  refine TL.run1 (pure_buildSlice (xs := [.tmp 6, .tmp 10]) Ty.app22 (by decide) rfl rfl (.cons rfl (.agg _) rfl (.cons rfl (.agg _) rfl .nil))) rfl ?_
  refine TL.run1 (pure_assign rfl) rfl ?_
  refine TL.nil' ?_
  refine TC.seq ?_
  refine TC.region ?_
  refine TL.run1 (pure_move rfl) rfl ?_
  refine TL.run1 (pure_call (RectsK_spec) (.cons rfl .nil) Try.call14) rfl ?_
  refine TL.run1 (pure_assign rfl) rfl ?_
  refine TL.nil' ?_
  refine TC.regionCut [14, 15, 16, 17, 18, 19, 20, 21, 22, 23, 24, 25, 26, 27, 28, 29, 30, 31, 32, 33, 34, 35, 36, 37, 0] 0 (True) ?_ ?_
  · skip
    refine TL.run1 (pure_move rfl) rfl ?_
    refine TL.run1 (pure_call (ColumnsK_spec) (.cons rfl .nil) Try.call17) rfl ?_
    refine TL.run1 (pure_eql rfl rfl) rfl ?_
    refine TL.run1 (pure_move rfl) rfl ?_
    first | refine TL.splitP 17 rfl (fun hg17 => ?_) (fun hg17 => ?_) | refine TL.split 17 rfl (fun hg17 => ?_) (fun hg17 => ?_)
    · try dsimp only at hg17
      have hr0 : (encQs [⟨0, 0, 0, 0, 2, 2⟩, ⟨0, 1, 0, 2, 1, 3⟩, ⟨1, 1, 1, 2, 2, 3⟩])[(0 : Int).toNat]? = some (encQ ⟨0, 0, 0, 0, 2, 2⟩) := rfl
      have hr2 : (encQs [⟨0, 0, 0, 0, 2, 2⟩, ⟨0, 1, 0, 2, 1, 3⟩, ⟨1, 1, 1, 2, 2, 3⟩])[(2 : Int).toNat]? = some (encQ ⟨1, 1, 1, 2, 2, 3⟩) := rfl
      refine TL.runG rfl rfl (pure_move rfl) rfl ?_
      first | refine TL.runG rfl rfl (pure_len Ty.sl25 rfl) rfl ?_ | refine TL.runG rfl rfl (pure_len_row Ty.sl25 rfl (by repeat (first | exact List.Mem.head _ | apply List.Mem.tail))) rfl ?_ | refine TL.runG rfl rfl (pure_len_nil Ty.sl25 rfl) rfl ?_
      refine TL.runG rfl rfl (pure_eql rfl rfl) rfl ?_
      refine TL.run1 (pure_pick_true rfl rfl) rfl ?_
      refine TL.run1 (pure_move rfl) rfl ?_
      first | refine TL.splitP 22 rfl (fun hg22 => ?_) (fun hg22 => ?_) | refine TL.split 22 rfl (fun hg22 => ?_) (fun hg22 => ?_)
      · try dsimp only at hg22
        refine TL.runG rfl rfl (pure_move rfl) rfl ?_
        refine TL.runG rfl rfl (pure_indexAddr Ty.sl25 rfl rfl (by omega) (by assumption) (List.cons_ne_nil _ _)) rfl ?_
        first | refine TL.runG rfl rfl (pure_load Ty.agg40 rfl (.succ (.succ (.succ (.succ (.succ (.succ (.zero _)))))))) rfl ?_ | refine TL.runG rfl rfl (pure_load_own Ty.agg40 rfl (by repeat (first | exact List.Mem.head _ | apply List.Mem.tail)) (by repeat (first | exact DropR.zero _ | apply DropR.succ)) (.succ (.succ (.succ (.succ (.succ (.succ (.zero _)))))))) rfl ?_
        refine TL.runG rfl rfl (pure_build Ty.pl38 Ty.zero38 (.cons rfl rfl (.one rfl) rfl (.skip (.skip (.here (.nil _)))) (.cons rfl rfl (.one rfl) rfl (.skip (.skip (.skip (.here (.nil _))))) (.nil _)))) rfl ?_
        refine TL.runG rfl rfl (pure_build Ty.pl40 Ty.zero40 (.cons rfl rfl (.agg _) rfl (.skip (.skip (.here (.here (.here (.here (.nil _))))))) (.nil _))) rfl ?_
        refine TL.runG rfl rfl (pure_eql_agg Ty.eq40 rfl rfl (.cons (.cons (.cons (.cons (.cons (.cons .nil)))))) (.cons (.cons (.cons (.cons (.cons (.cons .nil)))))) rfl rfl) rfl ?_
        refine TL.run1 (pure_pick_true rfl rfl) rfl ?_
        refine TL.run1 (pure_move rfl) rfl ?_
        first | refine TL.splitP 30 rfl (fun hg30 => ?_) (fun hg30 => ?_) | refine TL.split 30 rfl (fun hg30 => ?_) (fun hg30 => ?_)
        · try dsimp only at hg30
          refine TL.runG rfl rfl (pure_move rfl) rfl ?_
          refine TL.runG rfl rfl (pure_indexAddr Ty.sl25 rfl rfl (by omega) (by assumption) (List.cons_ne_nil _ _)) rfl ?_
          first | refine TL.runG rfl rfl (pure_load Ty.agg40 rfl (.succ (.succ (.succ (.succ (.succ (.succ (.zero _)))))))) rfl ?_ | refine TL.runG rfl rfl (pure_load_own Ty.agg40 rfl (by repeat (first | exact List.Mem.head _ | apply List.Mem.tail)) (by repeat (first | exact DropR.zero _ | apply DropR.succ)) (.succ (.succ (.succ (.succ (.succ (.succ (.zero _)))))))) rfl ?_
          refine TL.runG rfl rfl (pure_build Ty.pl38 Ty.zero38 (.cons rfl rfl (.one rfl) rfl (.here (.nil _)) (.cons rfl rfl (.one rfl) rfl (.skip (.here (.nil _))) (.cons rfl rfl (.one rfl) rfl (.skip (.skip (.here (.nil _)))) (.cons rfl rfl (.one rfl) rfl (.skip (.skip (.skip (.here (.nil _))))) (.nil _)))))) rfl ?_
          refine TL.runG rfl rfl (pure_build Ty.pl40 Ty.zero40 (.cons rfl rfl (.one rfl) rfl (.here (.nil _)) (.cons rfl rfl (.one rfl) rfl (.skip (.here (.nil _))) (.cons rfl rfl (.agg _) rfl (.skip (.skip (.here (.here (.here (.here (.nil _))))))) (.nil _))))) rfl ?_
          refine TL.runG rfl rfl (pure_eql_agg Ty.eq40 rfl rfl (.cons (.cons (.cons (.cons (.cons (.cons .nil)))))) (.cons (.cons (.cons (.cons (.cons (.cons .nil)))))) rfl rfl) rfl ?_
          refine TL.run1 (pure_pick_true rfl rfl) rfl ?_
          refine TL.run1 (pure_assign rfl) rfl ?_
          refine TL.cutEnd (by repeat (first | exact Same.refl _ _ | refine Same.put rfl ?_)) rfl ?_
          first | (simp only [decide_eq_true_eq, Bool.false_eq_true, false_iff, true_iff, iff_true, iff_false, Bool.not_eq_true]; omega) | (simp_all; done) | (simp_all; omega) | grind
        · try dsimp only at hg30
          refine TL.passG rfl rfl rfl rfl ?_
          refine TL.passG rfl rfl rfl rfl ?_
          refine TL.passG rfl rfl rfl rfl ?_
          refine TL.passG rfl rfl rfl rfl ?_
          refine TL.passG rfl rfl rfl rfl ?_
          refine TL.passG rfl rfl rfl rfl ?_
          refine TL.run1 (pure_pick_false rfl rfl) rfl ?_
          refine TL.run1 (pure_assign rfl) rfl ?_
          refine TL.cutEnd (by repeat (first | exact Same.refl _ _ | refine Same.put rfl ?_)) rfl ?_
          first | (simp only [decide_eq_true_eq, Bool.false_eq_true, false_iff, true_iff, iff_true, iff_false, Bool.not_eq_true]; omega) | (simp_all; done) | (simp_all; omega) | grind
      · try dsimp only at hg22
        refine TL.passG rfl rfl rfl rfl ?_
        refine TL.passG rfl rfl rfl rfl ?_
        refine TL.passG rfl rfl rfl rfl ?_
        refine TL.passG rfl rfl rfl rfl ?_
        refine TL.passG rfl rfl rfl rfl ?_
        refine TL.passG rfl rfl rfl rfl ?_
        refine TL.run1 (pure_pick_false rfl rfl) rfl ?_
        refine TL.run1 (pure_move rfl) rfl ?_
        refine TL.passG rfl rfl rfl rfl ?_
        refine TL.passG rfl rfl rfl rfl ?_
        refine TL.passG rfl rfl rfl rfl ?_
        refine TL.passG rfl rfl rfl rfl ?_
        refine TL.passG rfl rfl rfl rfl ?_
        refine TL.passG rfl rfl rfl rfl ?_
        refine TL.run1 (pure_pick_false rfl rfl) rfl ?_
        refine TL.run1 (pure_assign rfl) rfl ?_
        refine TL.cutEnd (by repeat (first | exact Same.refl _ _ | refine Same.put rfl ?_)) rfl ?_
        first | (simp only [decide_eq_true_eq, Bool.false_eq_true, false_iff, true_iff, iff_true, iff_false, Bool.not_eq_true]; omega) | (simp_all; done) | (simp_all; omega) | grind
    · try dsimp only at hg17
      refine TL.passG rfl rfl rfl rfl ?_
      refine TL.passG rfl rfl rfl rfl ?_
      refine TL.passG rfl rfl rfl rfl ?_
      refine TL.run1 (pure_pick_false rfl rfl) rfl ?_
      refine TL.run1 (pure_move rfl) rfl ?_
      refine TL.passG rfl rfl rfl rfl ?_
      refine TL.passG rfl rfl rfl rfl ?_
      refine TL.passG rfl rfl rfl rfl ?_
      refine TL.passG rfl rfl rfl rfl ?_
      refine TL.passG rfl rfl rfl rfl ?_
      refine TL.passG rfl rfl rfl rfl ?_
      refine TL.run1 (pure_pick_false rfl rfl) rfl ?_
      refine TL.run1 (pure_move rfl) rfl ?_
      refine TL.passG rfl rfl rfl rfl ?_
      refine TL.passG rfl rfl rfl rfl ?_
      refine TL.passG rfl rfl rfl rfl ?_
      refine TL.passG rfl rfl rfl rfl ?_
      refine TL.passG rfl rfl rfl rfl ?_
      refine TL.passG rfl rfl rfl rfl ?_
      refine TL.run1 (pure_pick_false rfl rfl) rfl ?_
      refine TL.run1 (pure_assign rfl) rfl ?_
      refine TL.cutEnd (by repeat (first | exact Same.refl _ _ | refine Same.put rfl ?_)) rfl ?_
      first | (simp only [decide_eq_true_eq, Bool.false_eq_true, false_iff, true_iff, iff_true, iff_false, Bool.not_eq_true]; omega) | (simp_all; done) | (simp_all; omega) | grind
  refine TC.ret ?_
  exact ret_bool rfl (by simp)
end Go.Ob
set_option linter.unusedVariables false
set_option linter.unusedSimpArgs false
namespace Go.Ob
open Go.Proofs
def firstIdx (p : Int → Bool) : Nat → Int
  | 0 => -1
  | n + 1 => if 0 ≤ firstIdx p n then firstIdx p n else if p n = true then n else -1
theorem firstIdx_none {p : Int → Bool} : ∀ {n : Nat}, (∀ j : Int, 0 ≤ j → j < n → p j = false) → firstIdx p n = -1
  | 0, _ => rfl
  | n + 1, h => by
    have h1 := firstIdx_none (n := n) fun j a b => h j a (by omega)
    rw [firstIdx, if_neg (by omega), if_neg (by rw [h n (by omega) (by omega)]; simp)]
theorem firstIdx_at {p : Int → Bool} {i : Int} (h0 : 0 ≤ i) (hp : p i = true) (hz : ∀ j : Int, 0 ≤ j → j < i → p j = false) : ∀ {n : Nat}, i < n → firstIdx p n = i
  | 0, h => by omega
  | n + 1, h => by
    by_cases hi : i < n
    · have h1 := firstIdx_at h0 hp hz hi
      rw [firstIdx, if_pos (by omega), h1]
    · have h1 := firstIdx_none (p := p) (n := n) fun j a b => hz j a (by omega)
      rw [firstIdx, if_neg (by omega), if_pos (by rw [show (n : Int) = i by omega]; exact hp)]
      omega
theorem firstIdx_spec (p : Int → Bool) : ∀ (n : Nat), (firstIdx p n = -1 ∧ ∀ j : Int, 0 ≤ j → j < n → p j = false) ∨ (0 ≤ firstIdx p n ∧ firstIdx p n < n ∧ p (firstIdx p n) = true ∧ ∀ j : Int, 0 ≤ j → j < firstIdx p n → p j = false)
  | 0 => .inl ⟨rfl, fun j a b => by omega⟩
  | n + 1 => by
    rcases firstIdx_spec p n with ⟨h1, h2⟩ | ⟨h1, h2, h3, h4⟩
    · rw [firstIdx, if_neg (by omega)]
      by_cases hp : p n = true
      · rw [if_pos hp]
        exact .inr ⟨by omega, by omega, hp, h2⟩
      · rw [if_neg hp]
        refine .inl ⟨rfl, fun j a b => ?_⟩
        rcases Int.lt_or_eq_of_le (show j ≤ n by omega) with h | h
        · exact h2 j a h
        · rw [h]; simpa using hp
    · rw [firstIdx, if_pos h1]
      exact .inr ⟨h1, by omega, h3, h4⟩
theorem spTo_mono1 (r : RowD) (i : Int) (h0 : 0 ≤ i) (h1 : i < r.cells.length) : spTo r i ≤ spTo r (i + 1) := by
  have h := sp_range r i h0 (by omega)
  rw [spTo_succ r i h0, sAt_step r i h0 h1]
  dsimp only
  unfold spanN
  omega
theorem spTo_monoD (r : RowD) (i : Int) (h0 : 0 ≤ i) : ∀ (d : Nat), i + d ≤ r.cells.length → spTo r i ≤ spTo r (i + d)
  | 0, _ => by simp
  | d + 1, h => by
    have h1 := spTo_monoD r i h0 d (by omega)
    have h2 := spTo_mono1 r (i + d) (by omega) (by omega)
    rw [show i + ((d + 1 : Nat) : Int) = i + d + 1 by omega]
    omega
theorem sAt_eq (r : RowD) (i : Int) (h0 : 0 ≤ i) (h1 : i < r.cells.length) : sAt (spansR r) i = (spTo r i, spTo r (i + 1)) := by
  rw [spTo_succ r i h0, sAt_step r i h0 h1]
theorem sAt_le (r : RowD) (i : Int) (h0 : 0 ≤ i) (h1 : i < r.cells.length) : 0 ≤ (sAt (spansR r) i).1 ∧ (sAt (spansR r) i).1 ≤ (sAt (spansR r) i).2 ∧ (sAt (spansR r) i).2 ≤ 32 := by
  rw [sAt_eq r i h0 h1]
  exact ⟨(sp_range r i h0 (by omega)).1, spTo_mono1 r i h0 h1, (sp_range r (i + 1) (by omega) (by omega)).2⟩
theorem sAt_col {r : RowD} {j k c : Int} (h0 : 0 ≤ j) (h1 : j < r.cells.length) (h2 : 0 ≤ k) (h3 : k < r.cells.length) (a : (sAt (spansR r) j).1 ≤ c) (b : c < (sAt (spansR r) j).2) (d : (sAt (spansR r) k).1 ≤ c) (e : c < (sAt (spansR r) k).2) : j = k := by
  rw [sAt_eq r j h0 h1] at a b
  rw [sAt_eq r k h2 h3] at d e
  dsimp only at a b d e
  rcases Int.lt_trichotomy j k with h | h | h
  · have := spTo_monoD r (j + 1) (by omega) (k - (j + 1)).toNat (by omega)
    rw [show j + 1 + ((k - (j + 1)).toNat : Int) = k by omega] at this
    omega
  · exact h
  · have := spTo_monoD r (k + 1) (by omega) (j - (k + 1)).toNat (by omega)
    rw [show k + 1 + ((j - (k + 1)).toNat : Int) = j by omega] at this
    omega
theorem sAt_inj {r : RowD} {j k : Int} (h0 : 0 ≤ j) (h1 : j < r.cells.length) (h2 : 0 ≤ k) (h3 : k < r.cells.length) (he : sAt (spansR r) j = sAt (spansR r) k) (hn : (sAt (spansR r) k).1 ≠ (sAt (spansR r) k).2) : j = k := by
  have := sAt_le r k h2 h3
  exact sAt_col (c := (sAt (spansR r) k).1) h0 h1 h2 h3 (by rw [he]; omega) (by rw [he]; omega) (by omega) (by omega)
def sameN (r : RowD) (f t : Int) : Int := firstIdx (fun k => decide ((sAt (spansR r) k).1 = f ∧ (sAt (spansR r) k).2 = t ∧ (sAt (spansR r) k).1 < (sAt (spansR r) k).2)) r.cells.length
def atN (r : RowD) (c : Int) : Int := firstIdx (fun k => decide ((sAt (spansR r) k).1 ≤ c ∧ c < (sAt (spansR r) k).2)) r.cells.length
def mgN (rs : List RowD) (i k : Int) : Int := getP (cAt (rAt rs i).cells k).props 61 0
def spN (rs : List RowD) (i k : Int) : Int × Int := sAt (spansR (rAt rs i)) k
def ncN (rs : List RowD) (i : Int) : Nat := (rAt rs i).cells.length
def Val (rs : List RowD) (i k : Int) : Prop := 0 ≤ i ∧ i < rs.length ∧ 0 ≤ k ∧ k < ncN rs i ∧ (spN rs i k).1 ≠ (spN rs i k).2
theorem Val.lt {rs : List RowD} {i k : Int} (h : Val rs i k) : (spN rs i k).1 < (spN rs i k).2 := by
  obtain ⟨_, _, h0, h1, hn⟩ := h
  have := sAt_le (rAt rs i) k h0 h1
  unfold spN at *
  omega
theorem Val.inj {rs : List RowD} {i j k : Int} (h : Val rs i j) (h2 : Val rs i k) (he : spN rs i j = spN rs i k) : j = k := sAt_inj h.2.2.1 h.2.2.2.1 h2.2.2.1 h2.2.2.2.1 he h2.2.2.2.2
theorem sameN_val {rs : List RowD} {i k : Int} (h : Val rs i k) : sameN (rAt rs i) (spN rs i k).1 (spN rs i k).2 = k := by
  refine firstIdx_at h.2.2.1 ?_ (fun j a b => ?_) h.2.2.2.1
  · have := h.lt
    unfold spN at *
    simp [this]
  · rw [decide_eq_false_iff_not]
    rintro ⟨h1, h2, h3⟩
    have h4 : j < ncN rs i := by have := h.2.2.2.1; omega
    have := Val.inj (rs := rs) (i := i) (j := j) (k := k) ⟨h.1, h.2.1, a, h4, by show (sAt (spansR (rAt rs i)) j).1 ≠ _; unfold spN; omega⟩ h (Prod.ext h1 h2)
    omega
theorem sameN_of {rs : List RowD} {i : Int} {s : Int × Int} (h0 : 0 ≤ i) (h1 : i < rs.length) (h : 0 ≤ sameN (rAt rs i) s.1 s.2) : Val rs i (sameN (rAt rs i) s.1 s.2) ∧ spN rs i (sameN (rAt rs i) s.1 s.2) = s := by
  rcases firstIdx_spec (fun k => decide ((sAt (spansR (rAt rs i)) k).1 = s.1 ∧ (sAt (spansR (rAt rs i)) k).2 = s.2 ∧ (sAt (spansR (rAt rs i)) k).1 < (sAt (spansR (rAt rs i)) k).2)) (rAt rs i).cells.length with ⟨a, _⟩ | ⟨_, b, c, _⟩
  · have : sameN (rAt rs i) s.1 s.2 = -1 := a
    omega
  · have c' := of_decide_eq_true c
    exact ⟨⟨h0, h1, h, b, fun he => by have := c'.2.2; unfold spN sameN at he; omega⟩, Prod.ext c'.1 c'.2.1⟩
def contB (rs : List RowD) (i k : Int) : Bool :=
  decide (i ≠ 0 ∧ (spN rs i k).1 ≠ (spN rs i k).2 ∧ mgN rs i k = 2 ∧ 0 ≤ sameN (rAt rs (i - 1)) (spN rs i k).1 (spN rs i k).2 ∧
    (mgN rs (i - 1) (sameN (rAt rs (i - 1)) (spN rs i k).1 (spN rs i k).2) = 1 ∨ mgN rs (i - 1) (sameN (rAt rs (i - 1)) (spN rs i k).1 (spN rs i k).2) = 2))
def CS (rs : List RowD) (s : Int × Int) (i : Int) : Prop :=
  ∃ k k', Val rs i k ∧ spN rs i k = s ∧ mgN rs i k = 2 ∧ Val rs (i - 1) k' ∧ spN rs (i - 1) k' = s ∧ (mgN rs (i - 1) k' = 1 ∨ mgN rs (i - 1) k' = 2)
theorem contB_iff {rs : List RowD} {i k : Int} (h : Val rs i k) : contB rs i k = true ↔ CS rs (spN rs i k) i := by
  unfold contB
  rw [decide_eq_true_eq]
  constructor
  · rintro ⟨h1, h2, h3, h4, h5⟩
    obtain ⟨a, b⟩ := sameN_of (rs := rs) (i := i - 1) (s := spN rs i k) (by have := h.1; omega) (by have := h.2.1; omega) h4
    exact ⟨k, _, h, rfl, h3, a, b, h5⟩
  · rintro ⟨k1, k', a, b, c, d, e, f⟩
    obtain rfl := Val.inj a h b
    have hs := sameN_val d
    rw [e] at hs
    exact ⟨by have := d.1; omega, h.2.2.2.2, c, by rw [hs]; exact d.2.2.1, by rw [hs]; exact f⟩
def csB (rs : List RowD) (s : Int × Int) (i : Int) : Bool := decide (0 ≤ sameN (rAt rs i) s.1 s.2) && contB rs i (sameN (rAt rs i) s.1 s.2)
theorem csB_iff {rs : List RowD} {s : Int × Int} {i : Int} (h0 : 0 ≤ i) (h1 : i < rs.length) : csB rs s i = true ↔ CS rs s i := by
  unfold csB
  rw [Bool.and_eq_true, decide_eq_true_eq]
  constructor
  · rintro ⟨a, b⟩
    obtain ⟨c, d⟩ := sameN_of h0 h1 a
    rw [contB_iff c, d] at b
    exact b
  · rintro h
    obtain ⟨k, k', a, b, _⟩ := id h
    have hs := sameN_val a
    rw [b] at hs
    rw [hs]
    exact ⟨a.2.2.1, (contB_iff a).2 (by rw [b]; exact h)⟩
def topN (rs : List RowD) (s : Int × Int) : Nat → Nat
  | 0 => 0
  | i + 1 => if csB rs s ((i + 1 : Nat) : Int) = true then topN rs s i else i + 1
def botN (rs : List RowD) (s : Int × Int) : Nat → Nat → Nat
  | i, 0 => i
  | i, d + 1 => if csB rs s (i : Int) = true then botN rs s (i + 1) d else i
theorem topN_spec (rs : List RowD) (s : Int × Int) : ∀ (i : Nat), i < rs.length → topN rs s i ≤ i ∧ (∀ j : Int, topN rs s i < j → j ≤ i → CS rs s j) ∧ ¬ CS rs s (topN rs s i)
  | 0, _ => ⟨Nat.le_refl _, fun j a b => by simp only [topN] at a; omega, fun ⟨k, k', a, b, c, d, _⟩ => by have := d.1; simp [topN] at this⟩
  | i + 1, h => by
    have ih := topN_spec rs s i (by omega)
    rw [topN]
    split
    · rename_i hc
      have hc' := (csB_iff (by omega) (by omega)).1 hc
      refine ⟨by omega, fun j a b => ?_, ih.2.2⟩
      rcases Int.lt_or_eq_of_le b with h | h
      · exact ih.2.1 j a (by omega)
      · rw [h]; exact hc'
    · rename_i hc
      exact ⟨Nat.le_refl _, fun j a b => by omega, fun h' => hc ((csB_iff (by omega) (by omega)).2 h')⟩
theorem CS.lt {rs : List RowD} {s : Int × Int} {i : Int} (h : CS rs s i) : 1 ≤ i ∧ i < rs.length := by
  obtain ⟨k, k', a, b, c, d, _⟩ := h
  exact ⟨by have := d.1; omega, a.2.1⟩
theorem botN_spec (rs : List RowD) (s : Int × Int) : ∀ (d i : Nat), i + d = rs.length → i ≤ botN rs s i d ∧ (∀ j : Int, i ≤ j → j < botN rs s i d → CS rs s j) ∧ ¬ CS rs s (botN rs s i d) ∧ botN rs s i d ≤ rs.length
  | 0, i, h => ⟨Nat.le_refl _, fun j a b => by simp only [botN] at b; omega, fun hc => by have := hc.lt; simp only [botN] at this; omega, by simp only [botN]; omega⟩
  | d + 1, i, h => by
    have ih := botN_spec rs s d (i + 1) (by omega)
    rw [botN]
    split
    · rename_i hc
      have hc' := (csB_iff (by omega) (by omega)).1 hc
      refine ⟨by omega, fun j a b => ?_, ih.2.2⟩
      rcases Int.lt_or_eq_of_le a with h | h
      · exact ih.2.1 j (by omega) b
      · rw [← h]; exact hc'
    · rename_i hc
      exact ⟨Nat.le_refl _, fun j a b => by omega, fun h' => hc ((csB_iff (by omega) (by omega)).2 h'), by omega⟩
def rectN (rs : List RowD) (i k : Int) : R6 :=
  ⟨topN rs (spN rs i k) i.toNat, sameN (rAt rs (topN rs (spN rs i k) i.toNat)) (spN rs i k).1 (spN rs i k).2, topN rs (spN rs i k) i.toNat, (spN rs i k).1, botN rs (spN rs i k) (i.toNat + 1) (rs.length - (i.toNat + 1)), (spN rs i k).2⟩
def existsN (rs : List RowD) (i k : Int) : Prop := 0 ≤ i ∧ i < rs.length ∧ 0 ≤ k ∧ k < (rAt rs i).cells.length
instance (rs : List RowD) (i k : Int) : Decidable (existsN rs i k) := by unfold existsN; infer_instance
end Go.Ob
set_option linter.unusedVariables false
set_option linter.unusedSimpArgs false
namespace Go.Ob
open Go.Proofs
def stB (rs : List RowD) (i k : Int) : Bool := decide ((spN rs i k).1 ≠ (spN rs i k).2) && !contB rs i k
def startsC (rs : List RowD) (i : Nat) : Nat → List (Int × Int)
  | 0 => []
  | k + 1 => startsC rs i k ++ (if stB rs i k = true then [((i : Int), (k : Int))] else [])
def startsR (rs : List RowD) : Nat → List (Int × Int)
  | 0 => []
  | i + 1 => startsR rs i ++ startsC rs i (ncN rs i)
theorem startsC_mem {rs : List RowD} {i : Nat} : ∀ {k : Nat} {p : Int × Int}, p ∈ startsC rs i k → p.1 = i ∧ 0 ≤ p.2 ∧ p.2 < k ∧ stB rs i p.2 = true
  | 0, p, h => by simp [startsC] at h
  | k + 1, p, h => by
    rw [startsC, List.mem_append] at h
    rcases h with h | h
    · have := startsC_mem h; exact ⟨this.1, this.2.1, by omega, this.2.2.2⟩
    · split at h
      · rename_i hs
        obtain rfl : p = ((i : Int), (k : Int)) := by simpa using h
        exact ⟨rfl, by simp only; omega, by simp only; omega, hs⟩
      · cases h
theorem startsR_mem {rs : List RowD} : ∀ {i : Nat} {p : Int × Int}, p ∈ startsR rs i → 0 ≤ p.1 ∧ p.1 < i
  | 0, p, h => by simp [startsR] at h
  | i + 1, p, h => by
    rw [startsR, List.mem_append] at h
    rcases h with h | h
    · have := startsR_mem h; omega
    · have := startsC_mem h; omega
theorem startsC_nodup (rs : List RowD) (i : Nat) : ∀ k, (startsC rs i k).Nodup
  | 0 => by simp [startsC]
  | k + 1 => by
    rw [startsC, List.nodup_append]
    refine ⟨startsC_nodup rs i k, by split <;> simp, fun a ha b hb => ?_⟩
    split at hb
    · obtain rfl : b = ((i : Int), (k : Int)) := by simpa using hb
      rintro rfl
      have := startsC_mem ha
      simp only at this
      omega
    · cases hb
theorem startsR_nodup (rs : List RowD) : ∀ i, (startsR rs i).Nodup
  | 0 => by simp [startsR]
  | i + 1 => by
    rw [startsR, List.nodup_append]
    refine ⟨startsR_nodup rs i, startsC_nodup rs i _, fun a ha b hb => ?_⟩
    rintro rfl
    have h1 := startsR_mem ha
    have h2 := startsC_mem hb
    omega
theorem starts_nodup (rs : List RowD) (i k : Nat) : (startsR rs i ++ startsC rs i k).Nodup := by
  rw [List.nodup_append]
  refine ⟨startsR_nodup rs i, startsC_nodup rs i _, fun a ha b hb => ?_⟩
  rintro rfl
  have h1 := startsR_mem ha
  have h2 := startsC_mem hb
  omega
def Seen (i kk : Nat) (j k : Int) : Prop := j < i ∨ (j = i ∧ k < kk)
def Cov (q : R6) (s : Int × Int) (j : Int) : Prop := (q.left, q.right) = s ∧ q.row ≤ j ∧ j < q.bottom
structure RectI (rs : List RowD) (i kk : Nat) (q : R6) : Prop where
  top : q.top = q.row
  val : Val rs q.row q.cell
  seen : Seen i kk q.row q.cell
  sp : spN rs q.row q.cell = (q.left, q.right)
  start : ¬ CS rs (q.left, q.right) q.row
  rb : q.row < q.bottom
  cs : ∀ j, q.row < j → j < q.bottom → CS rs (q.left, q.right) j
  last : q.bottom ≤ i ∨ (q.bottom = i + 1 ∧ ∃ k : Int, k < kk ∧ Val rs i k ∧ spN rs i k = (q.left, q.right))
  max : ∀ k, Val rs q.bottom k → spN rs q.bottom k = (q.left, q.right) → Seen i kk q.bottom k → ¬ CS rs (q.left, q.right) q.bottom
structure Inv (rs : List RowD) (i kk : Nat) (st : List R6 × PM × PM) : Prop where
  A : ∀ j k, Val rs j k → Seen i kk j k → ∃ n, look st.2.1 (j, k) = some n ∧ 0 ≤ n ∧ n < st.1.length ∧ Cov (qAt st.1 n) (spN rs j k) j
  B : ∀ j k, ¬ (Val rs j k ∧ Seen i kk j k) → look st.2.1 (j, k) = none
  C : ∀ n : Int, 0 ≤ n → n < st.1.length → RectI rs i kk (qAt st.1 n)
  D : st.1.map (fun q => (q.row, q.cell)) = startsR rs i ++ startsC rs i kk
  E : ∀ (s : Int × Int) (n : Int), s.1 ≠ s.2 → (look st.2.2 s = some n ↔ ∃ k : Int, k < kk ∧ Val rs i k ∧ spN rs i k = s ∧ (mgN rs i k = 1 ∨ mgN rs i k = 2) ∧ look st.2.1 (i, k) = some n)
def Opn (rs : List RowD) (i : Nat) (of opn : PM) : Prop :=
  ∀ (s : Int × Int) (n : Int), s.1 ≠ s.2 → (look opn s = some n ↔ ∃ k : Int, Val rs (i - 1) k ∧ spN rs (i - 1) k = s ∧ (mgN rs (i - 1) k = 1 ∨ mgN rs (i - 1) k = 2) ∧ look of ((i : Int) - 1, k) = some n)
theorem merged2 (c : CellD) : mergedN c = 2 ↔ getP c.props 61 0 = 2 := by
  unfold mergedN; split
  · constructor
    · intro h; cases h
    · intro h; omega
  · exact Iff.rfl
theorem merged0 (c : CellD) : mergedN c ≠ 0 ↔ getP c.props 61 0 = 1 ∨ getP c.props 61 0 = 2 := by
  unfold mergedN; split <;> omega
theorem rect_unique {rs : List RowD} {i kk : Nat} {q q' : R6} (h : RectI rs i kk q) (h' : RectI rs i kk q') {s : Int × Int} {j : Int} (c : Cov q s j) (c' : Cov q' s j) : q.row = q'.row ∧ q.cell = q'.cell := by
  have e : (q.left, q.right) = (q'.left, q'.right) := c.1.trans c'.1.symm
  have hr : q.row = q'.row := by
    rcases Int.lt_trichotomy q.row q'.row with hl | hl | hl
    · exact absurd (h.cs q'.row hl (by have := c'.2.1; have := c.2.2; omega)) (by rw [e]; exact h'.start)
    · exact hl
    · exact absurd (h'.cs q.row hl (by have := c.2.1; have := c'.2.2; omega)) (by rw [← e]; exact h.start)
  refine ⟨hr, ?_⟩
  have hv := h.val
  rw [hr] at hv
  refine Val.inj hv h'.val ?_
  rw [h'.sp, ← hr, h.sp, e]
theorem Inv.index {rs : List RowD} {i kk : Nat} {st : List R6 × PM × PM} (h : Inv rs i kk st) {n m : Int} (h0 : 0 ≤ n) (h1 : n < st.1.length) (h2 : 0 ≤ m) (h3 : m < st.1.length) (he : (qAt st.1 n).row = (qAt st.1 m).row ∧ (qAt st.1 n).cell = (qAt st.1 m).cell) : n = m := by
  have hnd : (st.1.map (fun q => (q.row, q.cell))).Nodup := by rw [h.D]; exact starts_nodup rs i kk
  have a1 : n.toNat < st.1.length := by omega
  have a2 : m.toNat < st.1.length := by omega
  have e1 : qAt st.1 n = st.1[n.toNat] := by simp [qAt, a1]
  have e2 : qAt st.1 m = st.1[m.toNat] := by simp [qAt, a2]
  rw [e1, e2] at he
  have := (List.getElem_inj (xs := st.1.map (fun q => (q.row, q.cell))) (i := n.toNat) (j := m.toNat) (h₀ := by simpa using a1) (h₁ := by simpa using a2) hnd).1 (by simp only [List.getElem_map]; exact Prod.ext he.1 he.2)
  omega
theorem Seen.step {i kk : Nat} {j k : Int} : Seen i (kk + 1) j k ↔ Seen i kk j k ∨ (j = i ∧ k = kk) := by
  unfold Seen
  constructor
  · rintro (h | ⟨h1, h2⟩)
    · exact .inl (.inl h)
    · rcases Int.lt_or_eq_of_le (show k ≤ kk by omega) with h | h
      · exact .inl (.inr ⟨h1, h⟩)
      · exact .inr ⟨h1, h⟩
  · rintro ((h | ⟨h1, h2⟩) | ⟨h1, h2⟩)
    · exact .inl h
    · exact .inr ⟨h1, by omega⟩
    · exact .inr ⟨h1, by omega⟩
theorem qAt_snoc_lt (l : List R6) (q : R6) (n : Int) (h0 : 0 ≤ n) (h1 : n < l.length) : qAt (l ++ [q]) n = qAt l n := by
  have h : n.toNat < l.length := by omega
  simp [qAt, List.getElem?_append_left h]
theorem qAt_snoc_eq (l : List R6) (q : R6) : qAt (l ++ [q]) l.length = q := by simp [qAt]
theorem qAt_set (l : List R6) (n b m : Int) (h0 : 0 ≤ n) (h1 : n < l.length) (h2 : 0 ≤ m) : qAt (setBot l n b) m = if m = n then { qAt l n with bottom := b } else qAt l m := by
  have h : n.toNat < l.length := by omega
  unfold setBot qAt
  by_cases hm : m = n
  · subst hm; simp [h]
  · rw [if_neg hm]
    simp [List.getElem?_set, show ¬ n.toNat = m.toNat by omega]
theorem Inv.cell {rs : List RowD} {i kk : Nat} {st : List R6 × PM × PM} {opn : PM} (h : Inv rs i kk st) (ho : Opn rs i st.2.1 opn) (hi : i < rs.length) (hk : kk < ncN rs i) :
    Inv rs i (kk + 1) (layCell i opn st kk (spN rs i kk) (cAt (rAt rs i).cells kk)) ∧ Opn rs i (layCell i opn st kk (spN rs i kk) (cAt (rAt rs i).cells kk)).2.1 opn := by
  have hmg : getP (cAt (rAt rs i).cells kk).props 61 0 = mgN rs i kk := rfl
  have hnew : ¬ Seen i kk i kk := by unfold Seen; omega
  unfold layCell
  split
  · -- no columns
    rename_i he
    have hnv : ¬ Val rs i kk := fun hv => hv.2.2.2.2 he
    have hs : ∀ j k, Val rs j k → (Seen i (kk + 1) j k ↔ Seen i kk j k) := fun j k hv => by
      rw [Seen.step]
      exact ⟨fun h => h.resolve_right (by rintro ⟨rfl, rfl⟩; exact hnv hv), .inl⟩
    refine ⟨⟨fun j k hv hsn => h.A j k hv ((hs j k hv).1 hsn), fun j k hn => h.B j k fun ⟨a, b⟩ => hn ⟨a, (hs j k a).2 b⟩, fun n a b => ?_, ?_, fun s n hsn => ?_⟩, ho⟩
    · have r := h.C n a b
      refine ⟨r.top, r.val, (hs _ _ r.val).2 r.seen, r.sp, r.start, r.rb, r.cs, r.last.imp id fun ⟨x, k, y, z⟩ => ⟨x, k, by omega, z⟩, fun k hv e sn => r.max k hv e ((hs _ _ hv).1 sn)⟩
    · rw [h.D, startsC, show stB rs i kk = false by unfold stB; simp [he]]
      simp
    · rw [h.E s n hsn]
      constructor
      · rintro ⟨k, a, b⟩; exact ⟨k, by omega, b⟩
      · rintro ⟨k, a, b⟩
        rcases Int.lt_or_eq_of_le (show k ≤ kk by omega) with h | h
        · exact ⟨k, h, b⟩
        · subst h; exact absurd b.1 hnv
  · rename_i hne
    have hv : Val rs i kk := ⟨by omega, by omega, by omega, by omega, hne⟩
    -- lookups behind an insertion at this cell
    have hlk : ∀ (v j k : Int), look (insM st.2.1 ((i : Int), (kk : Int)) v) (j, k) = if j = i ∧ k = kk then some v else look st.2.1 (j, k) := fun v j k => by
      rw [look_ins]
      by_cases hjk : j = i ∧ k = kk
      · rw [if_pos hjk, if_pos (by rw [hjk.1, hjk.2])]
      · rw [if_neg hjk, if_neg (by intro e; simp only [Prod.mk.injEq] at e; exact hjk ⟨e.1.symm, e.2.symm⟩)]
    have hopn : ∀ v : Int, Opn rs i (insM st.2.1 ((i : Int), (kk : Int)) v) opn := fun v s n hs => by
      rw [ho s n hs]
      constructor <;> (rintro ⟨k, a, b, c, d⟩; refine ⟨k, a, b, c, ?_⟩)
      · rw [hlk, if_neg (by omega)]; exact d
      · rwa [hlk, if_neg (by omega)] at d
    -- what B, E say of the new tables
    have hB : ∀ (v : Int) j k, ¬ (Val rs j k ∧ Seen i (kk + 1) j k) → look (insM st.2.1 ((i : Int), (kk : Int)) v) (j, k) = none := fun v j k hn => by
      rw [hlk]
      by_cases hjk : j = i ∧ k = kk
      · exact absurd ⟨by rw [hjk.1, hjk.2]; exact hv, Seen.step.2 (.inr hjk)⟩ hn
      · rw [if_neg hjk]
        exact h.B j k fun ⟨a, b⟩ => hn ⟨a, Seen.step.2 (.inl b)⟩
    have hE : ∀ (v : Int) (s : Int × Int) (n : Int), s.1 ≠ s.2 → (look (if mergedN (cAt (rAt rs i).cells kk) ≠ 0 then insM st.2.2 (spN rs i kk) v else st.2.2) s = some n ↔
        ∃ k : Int, k < ((kk + 1 : Nat) : Int) ∧ Val rs i k ∧ spN rs i k = s ∧ (mgN rs i k = 1 ∨ mgN rs i k = 2) ∧ look (insM st.2.1 ((i : Int), (kk : Int)) v) (i, k) = some n) := fun v s n hs => by
      have hold : (∃ k : Int, k < ((kk + 1 : Nat) : Int) ∧ Val rs i k ∧ spN rs i k = s ∧ (mgN rs i k = 1 ∨ mgN rs i k = 2) ∧ look (insM st.2.1 ((i : Int), (kk : Int)) v) (i, k) = some n) ↔
          ((spN rs i kk = s ∧ (mgN rs i kk = 1 ∨ mgN rs i kk = 2) ∧ v = n) ∨ ∃ k : Int, k < kk ∧ Val rs i k ∧ spN rs i k = s ∧ (mgN rs i k = 1 ∨ mgN rs i k = 2) ∧ look st.2.1 (i, k) = some n) := by
        constructor
        · rintro ⟨k, a, b, c, d, e⟩
          rw [hlk] at e
          rcases Int.lt_or_eq_of_le (show k ≤ kk by omega) with hl | hl
          · rw [if_neg (by omega)] at e
            exact .inr ⟨k, hl, b, c, d, e⟩
          · subst hl
            rw [if_pos ⟨rfl, rfl⟩] at e
            exact .inl ⟨c, d, by simpa using e⟩
        · rintro (⟨c, d, rfl⟩ | ⟨k, a, b, c, d, e⟩)
          · exact ⟨kk, by omega, hv, c, d, by rw [hlk, if_pos ⟨rfl, rfl⟩]⟩
          · exact ⟨k, by omega, b, c, d, by rw [hlk, if_neg (by omega)]; exact e⟩
      rw [hold]
      by_cases hm : mergedN (cAt (rAt rs i).cells kk) ≠ 0
      · rw [if_pos hm, look_ins]
        have hm' := (merged0 _).1 hm
        rw [hmg] at hm'
        by_cases hss : spN rs i kk = s
        · rw [if_pos hss]
          constructor
          · intro e; exact .inl ⟨hss, hm', by simpa using e⟩
          · rintro (⟨_, _, rfl⟩ | ⟨k, a, b, c, d, e⟩)
            · rfl
            · have := Val.inj b hv (c.trans hss.symm); omega
        · rw [if_neg hss, h.E s n hs]
          exact ⟨.inr, fun e => e.resolve_left fun e => hss e.1⟩
      · rw [if_neg hm, h.E s n hs]
        have hm' : ¬ (mgN rs i kk = 1 ∨ mgN rs i kk = 2) := fun e => hm ((merged0 _).2 e)
        exact ⟨.inr, fun e => e.resolve_left fun e => hm' e.2.1⟩
    split
    · -- it continues a rectangle
      rename_i hc
      obtain ⟨n, hn⟩ := Option.isSome_iff_exists.1 hc.1
      simp only [hn, Option.getD_some]
      obtain ⟨k', a, b, c, d⟩ := (ho _ n hne).1 hn
      have hm2 : mgN rs i kk = 2 := by have := (merged2 _).1 hc.2; rwa [hmg] at this
      have hCS : CS rs (spN rs i kk) i := ⟨kk, k', hv, rfl, hm2, a, b, c⟩
      obtain ⟨n', e1, e2, e3, e4⟩ := h.A _ k' a (.inl (by omega))
      rw [d] at e1
      obtain rfl : n = n' := by simpa using e1
      rw [b] at e4
      have r := h.C n e2 e3
      have hbot : (qAt st.1 n).bottom = i := by
        rcases r.last with hl | ⟨hl, k2, x, y, z⟩
        · have := e4.2.2; omega
        · have := Val.inj y hv (z.trans e4.1); omega
      have hr' : RectI rs i (kk + 1) { qAt st.1 n with bottom := (i : Int) + 1 } := by
        refine ⟨r.top, r.val, Seen.step.2 (.inl r.seen), r.sp, r.start, by have := e4.2.1; simp only; omega, fun j x y => ?_, .inr ⟨rfl, kk, by omega, hv, e4.1.symm⟩, fun k y z sn => ?_⟩
        · simp only at x y ⊢
          rcases Int.lt_or_eq_of_le (show j ≤ i by omega) with hl | hl
          · exact r.cs j x (by omega)
          · rw [hl, e4.1]; exact hCS
        · simp only at sn
          unfold Seen at sn; omega
      have hlen : (setBot st.1 n ((i : Int) + 1)).length = st.1.length := setBot_len _ _ _
      refine ⟨⟨fun j k hv' hsn => ?_, hB n, fun m x y => ?_, ?_, hE n⟩, hopn n⟩
      · dsimp only
        rw [hlk]
        by_cases hjk : j = i ∧ k = kk
        · obtain ⟨rfl, rfl⟩ := hjk
          refine ⟨n, by rw [if_pos ⟨rfl, rfl⟩], e2, by rw [hlen]; exact e3, ?_⟩
          rw [qAt_set _ _ _ _ e2 e3 e2, if_pos rfl]
          exact ⟨e4.1, by have := e4.2.1; simp only; omega, by simp only; omega⟩
        · rw [if_neg hjk]
          obtain ⟨m, m1, m2, m3, m4⟩ := h.A j k hv' ((Seen.step.1 hsn).resolve_right hjk)
          refine ⟨m, m1, m2, by rw [hlen]; exact m3, ?_⟩
          rw [qAt_set _ _ _ _ e2 e3 m2]
          split
          · rename_i hmn
            subst hmn
            exact ⟨m4.1, m4.2.1, by have := m4.2.2; simp only; omega⟩
          · exact m4
      · dsimp only at y ⊢
        rw [hlen] at y
        rw [qAt_set _ _ _ _ e2 e3 x]
        split
        · exact hr'
        · rename_i hmn
          have q := h.C m x y
          refine ⟨q.top, q.val, Seen.step.2 (.inl q.seen), q.sp, q.start, q.rb, q.cs, q.last.imp id fun ⟨x, k, y, z⟩ => ⟨x, k, by omega, z⟩, fun k y' z sn => ?_⟩
          rcases Seen.step.1 sn with sn | ⟨s1, s2⟩
          · exact q.max k y' z sn
          · exfalso
            subst s2
            rw [s1] at z
            have cov : Cov (qAt st.1 m) (spN rs i kk) (i - 1) := ⟨z.symm, by have := q.rb; omega, by omega⟩
            exact hmn (h.index x y e2 e3 (rect_unique q r cov e4))
      · dsimp only
        have e5 : (setBot st.1 n ((i : Int) + 1)).map (fun q => (q.row, q.cell)) = st.1.map (fun q => (q.row, q.cell)) := by
          refine List.ext_getElem (by simp [hlen]) fun j a1 a2 => ?_
          simp only [List.getElem_map, setBot, List.getElem_set]
          split
          · rename_i hj
            have a3 : n.toNat < st.1.length := by omega
            have : qAt st.1 n = st.1[n.toNat] := by simp [qAt, a3]
            rw [this]; simp only [hj]
          · rfl
        rw [e5, h.D, startsC, show stB rs i kk = false by unfold stB; rw [(contB_iff hv).2 hCS]; simp]
        simp
    · -- a new one
      rename_i hc
      have hnCS : ¬ CS rs (spN rs i kk) i := by
        rintro ⟨k, k', a, b, c, d, e, f⟩
        obtain rfl := Val.inj a hv b
        obtain ⟨n, e1, _⟩ := h.A _ k' d (.inl (by omega))
        have := (ho _ n hne).2 ⟨k', d, e, f, e1⟩
        exact hc ⟨by rw [this]; rfl, (merged2 _).2 (by rw [hmg]; exact c)⟩
      have hlen : (st.1 ++ [(⟨i, kk, i, (spN rs i kk).1, i + 1, (spN rs i kk).2⟩ : R6)]).length = st.1.length + 1 := by simp
      refine ⟨⟨fun j k hv' hsn => ?_, hB _, fun m x y => ?_, ?_, hE _⟩, hopn _⟩
      · dsimp only
        rw [hlk]
        by_cases hjk : j = i ∧ k = kk
        · obtain ⟨rfl, rfl⟩ := hjk
          refine ⟨st.1.length, by rw [if_pos ⟨rfl, rfl⟩], by omega, by rw [hlen]; omega, ?_⟩
          rw [qAt_snoc_eq]
          exact ⟨rfl, Int.le_refl _, by simp only; omega⟩
        · rw [if_neg hjk]
          obtain ⟨m, m1, m2, m3, m4⟩ := h.A j k hv' ((Seen.step.1 hsn).resolve_right hjk)
          refine ⟨m, m1, m2, by rw [hlen]; omega, ?_⟩
          rw [qAt_snoc_lt _ _ _ m2 m3]
          exact m4
      · dsimp only at y ⊢
        rw [hlen] at y
        rcases Int.lt_or_eq_of_le (show m ≤ st.1.length by omega) with hl | hl
        · rw [qAt_snoc_lt _ _ _ x hl]
          have q := h.C m x hl
          refine ⟨q.top, q.val, Seen.step.2 (.inl q.seen), q.sp, q.start, q.rb, q.cs, q.last.imp id fun ⟨x, k, y, z⟩ => ⟨x, k, by omega, z⟩, fun k y' z sn => ?_⟩
          rcases Seen.step.1 sn with sn | ⟨s1, s2⟩
          · exact q.max k y' z sn
          · subst s2
            rw [s1] at z ⊢
            rw [← z]; exact hnCS
        · rw [hl, qAt_snoc_eq]
          refine ⟨rfl, hv, Seen.step.2 (.inr ⟨rfl, rfl⟩), rfl, hnCS, by simp only; omega, fun j a b => by simp only at a b; omega, .inr ⟨rfl, kk, by omega, hv, rfl⟩, fun k a b sn => ?_⟩
          simp only at sn
          unfold Seen at sn; omega
      · dsimp only
        rw [List.map_append, h.D, startsC, show stB rs i kk = true by unfold stB; rw [Bool.eq_false_iff.2 (fun hh => hnCS ((contB_iff hv).1 hh))]; simp [hne]]
        simp
theorem Inv.upto {rs : List RowD} {i : Nat} {st : List R6 × PM × PM} {opn : PM} (h : Inv rs i 0 st) (ho : Opn rs i st.2.1 opn) (hi : i < rs.length) : ∀ kk, kk ≤ ncN rs i → Inv rs i kk (layUpto i opn (rAt rs i) st kk) ∧ Opn rs i (layUpto i opn (rAt rs i) st kk).2.1 opn
  | 0, _ => ⟨h, ho⟩
  | kk + 1, hk => by
    obtain ⟨h1, h2⟩ := Inv.upto h ho hi kk (by omega)
    exact h1.cell h2 hi (by omega)
theorem lay_inv (rs : List RowD) : ∀ i, i ≤ rs.length → Inv rs i 0 ((layRows rs i).1, (layRows rs i).2.1, []) ∧ Opn rs i (layRows rs i).2.1 (layRows rs i).2.2
  | 0, _ => by
    refine ⟨⟨fun j k hv hs => ?_, fun j k _ => by simp [layRows, look], fun n a b => by (simp [layRows] at b; omega), by simp [layRows, startsR, startsC], fun s n _ => ?_⟩, fun s n _ => ?_⟩
    · have := hv.1; have := hv.2.2.1; unfold Seen at hs; omega
    · constructor
      · intro e; simp [look] at e
      · rintro ⟨k, a, b, _⟩; have := b.2.2.1; omega
    · constructor
      · intro e; simp [layRows, look] at e
      · rintro ⟨k, a, _⟩; have := a.1; simp at this
  | i + 1, hi => by
    obtain ⟨h1, h2⟩ := lay_inv rs i (by omega)
    obtain ⟨h3, h4⟩ := h1.upto h2 (by omega) (ncN rs i) (Nat.le_refl _)
    have hrow : layRows rs (i + 1) = layUpto i (layRows rs i).2.2 (rAt rs i) ((layRows rs i).1, (layRows rs i).2.1, []) (ncN rs i) := rfl
    have hsn : ∀ j k, Val rs j k → (Seen (i + 1) 0 j k ↔ Seen i (ncN rs i) j k) := fun j k hv => by
      have h5 := hv.2.2.1
      have h6 := hv.2.2.2.1
      unfold Seen
      constructor
      · rintro (h | h)
        · rcases Int.lt_or_eq_of_le (show j ≤ i by omega) with h | h
          · exact .inl h
          · subst h; exact .inr ⟨rfl, h6⟩
        · omega
      · rintro (h | h)
        · exact .inl (by omega)
        · exact .inl (by omega)
    rw [← hrow] at h3 h4
    refine ⟨⟨fun j k hv hs => h3.A j k hv ((hsn j k hv).1 hs), fun j k hn => h3.B j k fun ⟨a, b⟩ => hn ⟨a, (hsn j k a).2 b⟩, fun n a b => ?_, ?_, fun s n _ => ?_⟩, fun s n hs => ?_⟩
    · have r := h3.C n a b
      refine ⟨r.top, r.val, (hsn _ _ r.val).2 r.seen, r.sp, r.start, r.rb, r.cs, .inl ?_, fun k hv e sn => r.max k hv e ((hsn _ _ hv).1 sn)⟩
      rcases r.last with h | h
      · show (qAt (layRows rs (i + 1)).1 n).bottom ≤ ((i + 1 : Nat) : Int); omega
      · have := h.1; show (qAt (layRows rs (i + 1)).1 n).bottom ≤ ((i + 1 : Nat) : Int); omega
    · show (layRows rs (i + 1)).1.map _ = _
      rw [h3.D, startsC, List.append_nil]; rfl
    · constructor
      · intro e; simp [look] at e
      · rintro ⟨k, a, b, _⟩; have := b.2.2.1; omega
    · rw [h3.E s n hs]
      rw [show (((i + 1 : Nat) : Int) - 1) = i by omega]
      constructor
      · rintro ⟨k, a, b⟩; exact ⟨k, b⟩
      · rintro ⟨k, b⟩; exact ⟨k, b.1.2.2.2.1, b⟩
theorem lay_final (rs : List RowD) : Inv rs rs.length 0 (layRects rs, layOf rs, []) := (lay_inv rs rs.length (Nat.le_refl _)).1
theorem seen_all {rs : List RowD} {j k : Int} (h : Val rs j k) : Seen rs.length 0 j k := .inl h.2.1
theorem rect_bot {rs : List RowD} {q : R6} (r : RectI rs rs.length 0 q) : ¬ CS rs (q.left, q.right) q.bottom := fun h => by
  obtain ⟨k, k', a, b, _⟩ := id h
  exact r.max k a b (seen_all a) h
theorem bot_unique {rs : List RowD} {s : Int × Int} {r b c : Int} (h1 : r < b) (h2 : ∀ j, r < j → j < b → CS rs s j) (h3 : ¬ CS rs s b) (h4 : r < c) (h5 : ∀ j, r < j → j < c → CS rs s j) (h6 : ¬ CS rs s c) : b = c := by
  rcases Int.lt_trichotomy b c with h | h | h
  · exact absurd (h5 b h1 h) h3
  · exact h
  · exact absurd (h2 c h4 h) h6
theorem top_unique {rs : List RowD} {s : Int × Int} {r t u : Int} (h1 : t ≤ r) (h2 : ∀ j, t < j → j ≤ r → CS rs s j) (h3 : ¬ CS rs s t) (h4 : u ≤ r) (h5 : ∀ j, u < j → j ≤ r → CS rs s j) (h6 : ¬ CS rs s u) : t = u := by
  rcases Int.lt_trichotomy t u with h | h | h
  · exact absurd (h2 u h h4) h6
  · exact h
  · exact absurd (h5 t h h1) h3
theorem rect_eq {rs : List RowD} {q : R6} (r : RectI rs rs.length 0 q) {i k : Int} (hv : Val rs i k) (c : Cov q (spN rs i k) i) : q = rectN rs i k := by
  have ht := topN_spec rs (spN rs i k) i.toNat (by have := hv.1; have := hv.2.1; omega)
  have hi : ((i.toNat : Nat) : Int) = i := by have := hv.1; omega
  rw [hi] at ht
  have hb := botN_spec rs (spN rs i k) (rs.length - (i.toNat + 1)) (i.toNat + 1) (by have := hv.1; have := hv.2.1; omega)
  have e1 : q.row = topN rs (spN rs i k) i.toNat := top_unique c.2.1 (fun j a b => by have := r.cs j a (by have := c.2.2; omega); rwa [c.1] at this) (by have := r.start; rwa [c.1] at this) (by have := ht.1; omega) ht.2.1 ht.2.2
  have e2 : q.bottom = botN rs (spN rs i k) (i.toNat + 1) (rs.length - (i.toNat + 1)) := by
    refine bot_unique (r := i) (s := spN rs i k) c.2.2 (fun j a b => by have := r.cs j (by have := c.2.1; omega) b; rwa [c.1] at this) (by have := rect_bot r; rwa [c.1] at this) (by have := hb.1; omega) (fun j a b => hb.2.1 j (by omega) b) hb.2.2.1
  have e3 : q.cell = sameN (rAt rs q.row) (spN rs i k).1 (spN rs i k).2 := by
    have := sameN_val r.val
    rw [r.sp, c.1] at this
    exact this.symm
  have e4 : q.left = (spN rs i k).1 := congrArg Prod.fst c.1
  have e5 : q.right = (spN rs i k).2 := congrArg Prod.snd c.1
  have e6 := r.top
  cases q
  simp only at e1 e2 e3 e4 e5 e6
  unfold rectN
  subst e4; subst e5
  simp only [R6.mk.injEq]
  refine ⟨e1, by rw [e3, e1], by rw [e6, e1], trivial, e2, trivial⟩
end Go.Ob
