import Derived.Test.YtlhjcleejolbiaaPr
set_option linter.unusedVariables false
set_option linter.unusedSimpArgs false
namespace Go.Ob
open Go.Proofs

/-! ### tables, plain -/
structure CellD where
  id : D
  props : List (Int × Int)
  ins : D
  move : D
  dels : D
  layers : D
  flow : List (List D)
def encC (c : CellD) : List D := [c.id, .sl 2 (encP c.props), c.ins, c.move, c.dels, c.layers, .sl 11 c.flow]
def encCs (cs : List CellD) : List (List D) := cs.map encC
structure RowD where
  hp : D
  hi : D
  hm : D
  hd : D
  hl : D
  cells : List CellD
def encR (r : RowD) : List D := [r.hp, r.hi, r.hm, r.hd, r.hl, .sl 7 (encCs r.cells)]
def encRs (rs : List RowD) : List (List D) := rs.map encR
def cell0 : CellD := ⟨.v .nilIface, [], .v .nilIface, .v .nilIface, .v .nilIface, .v .nilIface, []⟩
def row0 : RowD := ⟨.v .nilIface, .v .nilIface, .v .nilIface, .v .nilIface, .v .nilIface, []⟩
def cAt (cs : List CellD) (i : Int) : CellD := cs.getD i.toNat cell0
def rAt (rs : List RowD) (i : Int) : RowD := rs.getD i.toNat row0
theorem encCs_len (cs : List CellD) : (encCs cs).length = cs.length := by simp [encCs]
theorem encRs_len (rs : List RowD) : (encRs rs).length = rs.length := by simp [encRs]
theorem encCs_get (cs : List CellD) (i : Int) (h0 : 0 ≤ i) (h1 : i < cs.length) : (encCs cs)[i.toNat]? = some (encC (cAt cs i)) := by
  have : i.toNat < cs.length := by omega
  simp [encCs, cAt, this]
theorem encRs_get (rs : List RowD) (i : Int) (h0 : 0 ≤ i) (h1 : i < rs.length) : (encRs rs)[i.toNat]? = some (encR (rAt rs i)) := by
  have : i.toNat < rs.length := by omega
  simp [encRs, rAt, this]
theorem cAt_mem (cs : List CellD) (i : Int) (h0 : 0 ≤ i) (h1 : i < cs.length) : cAt cs i ∈ cs := by
  have : i.toNat < cs.length := by omega
  simp [cAt, this]
theorem rAt_mem (rs : List RowD) (i : Int) (h0 : 0 ≤ i) (h1 : i < rs.length) : rAt rs i ∈ rs := by
  have : i.toNat < rs.length := by omega
  simp [rAt, this]
theorem drop_cell (cs : List CellD) (i : Int) (h0 : 0 ≤ i) (h1 : i < cs.length) : cs.drop i.toNat = cAt cs i :: cs.drop (i + 1).toNat := by
  have hl : i.toNat < cs.length := by omega
  rw [List.drop_eq_getElem_cons hl, show (i + 1).toNat = i.toNat + 1 by omega]
  simp [cAt, hl]
/-- what the program's readers ask of a cell's properties -/
def CellOk (c : CellD) : Prop := Inc (keysP c.props) ∧ c.props.length ≤ 1000000
def RowOk (r : RowD) : Prop := (∀ c ∈ r.cells, CellOk c) ∧ r.cells.length ≤ 1000000 ∧ r.cells.length ≤ 2000
def TabOk (rs : List RowD) : Prop := (∀ r ∈ rs, RowOk r) ∧ rs.length ≤ 1000000
def spanN (c : CellD) : Int := max (getP c.props 60 1) 1
def spansFrom : Int → List CellD → List (Int × Int)
  | _, [] => []
  | k, c :: cs => (k, k + min (spanN c) (32 - k)) :: spansFrom (k + min (spanN c) (32 - k)) cs
def spansR (r : RowD) : List (Int × Int) := spansFrom 0 r.cells
def encS (l : List (Int × Int)) : List (List D) := l.map fun s => [.v (.int .i64 s.1), .v (.int .i64 s.2)]
theorem encS_len (l : List (Int × Int)) : (encS l).length = l.length := by simp [encS]
theorem encS_snoc (l : List (Int × Int)) (a b : Int) : encS (l ++ [(a, b)]) = encS l ++ [[.v (.int .i64 a), .v (.int .i64 b)]] := by simp [encS]
def sAt (l : List (Int × Int)) (i : Int) : Int × Int := l.getD i.toNat (0, 0)
theorem encS_get (l : List (Int × Int)) (i : Int) (h0 : 0 ≤ i) (h1 : i < l.length) : (encS l)[i.toNat]? = some [.v (.int .i64 (sAt l i).1), .v (.int .i64 (sAt l i).2)] := by
  have : i.toNat < l.length := by omega
  simp [encS, sAt, this]
theorem spansFrom_len : ∀ (cs : List CellD) (k : Int), (spansFrom k cs).length = cs.length
  | [], _ => rfl
  | c :: cs, k => by simp [spansFrom, spansFrom_len cs]
def mergedN (c : CellD) : Int := if getP c.props 61 0 ≠ 1 ∧ getP c.props 61 0 ≠ 2 then 0 else getP c.props 61 0
theorem encS_each (l : List (Int × Int)) : ∀ x ∈ encS l, x.length = 2 := by
  intro x hx; simp only [encS, List.mem_map] at hx; obtain ⟨s, _, rfl⟩ := hx; rfl
set_option maxRecDepth 100000 in
theorem spans_spec (r : RowD) (hr : RowOk r) : Fun Try.prog 39 [.agg (encR r)] (.sl 2 (encS (spansR r))) := by
  have hrl := hr.2.1
  refine Fun.enterF (n := 36) (rs := [.tmp 2]) Try.func39 rfl Try.ntmps39 Try.results39 rfl (fun w F => ?_)
  refine TC.seq ?_
  refine TC.region ?_
  refine TL.box rfl (.agg _) rfl (fun g1 => ?_)
  refine TL.run1 (pure_assign rfl) rfl ?_
  refine TL.nil' ?_
  refine TC.seq ?_
  refine TC.region ?_
  refine TL.run1 (pure_assign rfl) rfl ?_
  refine TL.nil' ?_
  refine TC.seq ?_
  refine TC.region ?_
  refine TL.run1 (pure_assign rfl) rfl ?_
  refine TL.nil' ?_
  refine TC.seq ?_
  refine TC.seq ?_
  refine TC.nilrow 51 2 ?_
  refine TC.region ?_
  first | refine TL.run1 (pure_fieldAddr Ty.f36_1 rfl (.succ (.succ (.succ (.succ (.succ (.zero _)))))) (List.cons_ne_nil _ _)) rfl ?_ | refine TL.run1 (pure_fieldAddr_own Ty.f36_1 rfl) rfl ?_
  first | refine TL.run1 (pure_load1 Ty.one34 rfl) rfl ?_ | refine TL.run1 (pure_load1_own Ty.one34 rfl (by repeat (first | exact List.Mem.head _ | apply List.Mem.tail)) (by repeat (first | exact DropR.zero _ | apply DropR.succ))) rfl ?_
  first | refine TL.run1 (pure_len Ty.sl34 rfl) rfl ?_ | refine TL.run1 (pure_len_row Ty.sl34 rfl (by repeat (first | exact List.Mem.head _ | apply List.Mem.tail))) rfl ?_ | refine TL.run1 (pure_len_nil Ty.sl34 rfl) rfl ?_
  refine TL.run1 (pure_move rfl) rfl ?_
  refine TL.nil' ?_
  refine TC.block ?_
  refine TC.loopX (X := Int × Value × Int × List (Int × Int)) (fun (k, v, at0, pre) => [(10, .sl 7 (encCs r.cells)), (11, .v (.int .i64 (encCs r.cells).length)), (3, .v v), (4, .v (.int .i64 at0)), (12, .v (.int .i64 k))]) (fun (k, v, at0, pre) => [.row v 51 2 (encS pre)]) (fun (k, v, at0, pre) => (0 ≤ k) ∧ (k ≤ r.cells.length) ∧ (0 ≤ at0) ∧ (at0 ≤ 32) ∧ (pre.length = k.toNat) ∧ (spansR r = pre ++ spansFrom at0 (r.cells.drop k.toNat))) (fun (k, v, at0, pre) => (r.cells.length - k).toNat) (0, .slice none 0 0, 0, []) ⟨by skip; repeat (first | exact Agree.nil | refine Agree.cons rfl ?_), by skip; repeat (first | exact List.nil_sublist _ | exact List.Sublist.refl _ | apply List.Sublist.cons_cons | apply List.Sublist.cons)⟩ ?_ ?_
  · skip
    exact ⟨by omega, by omega, by omega, by omega, rfl, rfl⟩
  rintro ⟨k, v, at0, pre⟩
  rintro ⟨h0, h1, h2, h3, h4, h5⟩
  show TC _ _ _ (Env.of [(10, .sl 7 (encCs r.cells)), (11, .v (.int .i64 (encCs r.cells).length)), (3, .v v), (4, .v (.int .i64 at0)), (12, .v (.int .i64 k))]) [.row v 51 2 (encS pre)]
  have hk := encCs_len r.cells
  have hp := encS_len pre
  refine TC.seq ?_
  refine TC.region ?_
  refine TL.run1 (pure_lss rfl rfl) rfl ?_
  refine TL.nil' ?_
  refine TC.seq ?_
  first | refine TC.condD rfl (fun hc13 => ?_) (fun hc13 => ?_) | refine TC.condN rfl (fun hc13 => ?_) (fun hc13 => ?_) | refine TC.cond rfl (fun hc13 => ?_) (fun hc13 => ?_)
  · try dsimp only at hc13
    refine TC.skip' ?_
    refine TC.seq ?_
    refine TC.block ?_
    refine TC.seq ?_
    have hrow := encCs_get r.cells k h0 (by omega)
    have hok := hr.1 _ (cAt_mem r.cells k h0 (by omega))
    refine TC.region ?_
    refine TL.run1 (pure_indexAddr Ty.sl34 rfl rfl (by omega) (by assumption) (List.cons_ne_nil _ _)) rfl ?_
    first | refine TL.run1 (pure_load Ty.agg74 rfl (.succ (.succ (.succ (.succ (.succ (.succ (.succ (.zero _))))))))) rfl ?_ | refine TL.run1 (pure_load_own Ty.agg74 rfl (by repeat (first | exact List.Mem.head _ | apply List.Mem.tail)) (by repeat (first | exact DropR.zero _ | apply DropR.succ)) (.succ (.succ (.succ (.succ (.succ (.succ (.succ (.zero _))))))))) rfl ?_
    refine TL.alloc Ty.zero74 rfl (fun g6 => ?_)
    refine TL.store rfl rfl (.agg _) Try.sizeOf74 rfl (by repeat (first | exact UpdR.here _ | apply UpdR.there)) (by repeat (first | exact PutR.nil _ | apply PutR.here | apply PutR.skip)) ?_
    refine TL.nil' ?_
    refine TC.seq ?_
    refine TC.region ?_
    first | refine TL.run1 (pure_fieldAddr Ty.f74_1 rfl (.succ (.zero _)) (List.cons_ne_nil _ _)) rfl ?_ | refine TL.run1 (pure_fieldAddr_own Ty.f74_1 rfl) rfl ?_
    first | refine TL.run1 (pure_fieldAddr Ty.f33_0 rfl (.zero _) (List.cons_ne_nil _ _)) rfl ?_ | refine TL.run1 (pure_fieldAddr_own Ty.f33_0 rfl) rfl ?_
    first | refine TL.run1 (pure_load1 Ty.one27 rfl) rfl ?_ | refine TL.run1 (pure_load1_own Ty.one27 rfl (by repeat (first | exact List.Mem.head _ | apply List.Mem.tail)) (by repeat (first | exact DropR.zero _ | apply DropR.succ))) rfl ?_
    first | refine TL.run1 (pure_call (value60_spec _ hok.1 hok.2) (.cons rfl (.cons rfl .nil)) Try.call55) rfl ?_ | refine TL.run1 (pure_call (value61_spec _ hok.1 hok.2) (.cons rfl (.cons rfl .nil)) Try.call55) rfl ?_
    refine TL.run1 (pure_max rfl rfl) rfl ?_
    refine TL.run1 (pure_assign rfl) rfl ?_
    refine TL.nil' ?_
    refine TC.seq ?_
    have hsp : 1 ≤ max (getP (cAt r.cells k).props 60 1) 1 := by omega
    refine TC.region ?_
    refine TL.run1 (pure_move rfl) rfl ?_
    refine TL.run1 (pure_move rfl) rfl ?_
    refine TL.run1 (pure_move rfl) rfl ?_
    refine TL.run1 (pure_sub rfl rfl (mkI64 (by omega) (by omega))) rfl ?_
    refine TL.run1 (pure_min rfl rfl) rfl ?_
    refine TL.run1 (pure_add rfl rfl (mkI64 (by omega) (by omega))) rfl ?_
    refine TL.run1 (pure_assign rfl) rfl ?_
    refine TL.nil' ?_
    refine TC.seq ?_
    refine TC.region ?_
    refine TL.run1 (pure_move rfl) rfl ?_
    refine TL.run1 (pure_move rfl) rfl ?_
    refine TL.run1 (pure_move rfl) rfl ?_
    refine TL.run1 (pure_build Ty.pl51 Ty.zero51 (.cons rfl rfl (.one rfl) rfl (.here (.nil _)) (.cons rfl rfl (.one rfl) rfl (.skip (.here (.nil _))) (.nil _)))) rfl ?_
    refine TL.run1 (pure_buildSlice (xs := [.tmp 30]) Ty.app44 (by decide) rfl rfl (.cons rfl (.agg _) rfl .nil)) rfl ?_
    refine TL.append Ty.app44 rfl rfl (by intro _; repeat (first | exact UpdR.here _ | apply UpdR.there)) (by simp only [List.length_append, List.length_cons, List.length_nil]; omega) (by simp only [List.length_append, List.length_cons, List.length_nil]; omega) rfl (fun v32 hv32 => ?_)
    refine TL.run1 (pure_assign rfl) rfl ?_
    refine TL.nil' ?_
    refine TC.region ?_
    refine TL.run1 (pure_move rfl) rfl ?_
    refine TL.run1 (pure_assign rfl) rfl ?_
    refine TL.nil ?_
    refine block_normal ?_
    refine then_normal ?_
    refine TC.region ?_
    refine TL.run1 (pure_add rfl rfl (mkI64 (by omega) (by omega))) rfl ?_
    refine TL.run1 (pure_move rfl) rfl ?_
    refine TL.nil ?_
    have hto : 0 ≤ at0 + min (spanN (cAt r.cells k)) (32 - at0) ∧ at0 + min (spanN (cAt r.cells k)) (32 - at0) ≤ 32 := by unfold spanN; omega
    refine loop_next (k + 1, v32, at0 + min (spanN (cAt r.cells k)) (32 - at0), pre ++ [(at0, at0 + min (spanN (cAt r.cells k)) (32 - at0))]) ⟨by repeat (first | exact Agree.nil | refine Agree.cons rfl ?_), ?_⟩ ⟨by omega, by omega, hto.1, hto.2, by rw [List.length_append, h4]; show _ = (k + 1).toNat; simp; omega, ?_⟩ (by dsimp only; omega)
    · dsimp only; rw [encS_snoc]; repeat (first | exact List.nil_sublist _ | exact List.Sublist.refl _ | apply List.Sublist.cons_cons | apply List.Sublist.cons)
    · rw [h5, drop_cell r.cells k h0 (by omega), List.append_assoc]; rfl
  · try dsimp only at hc13
    refine TC.exit ?_
    refine then_exit ?_
    refine loop_exit ?_
    refine block_here ?_
    refine then_normal ?_
    refine TC.seq ?_
    refine TC.region ?_
    refine TL.run1 (pure_move rfl) rfl ?_
    refine TL.run1 (pure_assign rfl) rfl ?_
    refine TL.nil' ?_
    refine TC.ret ?_
    exact retF_row rfl (.head _) (by decide) (encS_each _) (by rw [h5, List.drop_eq_nil_of_le (by omega)]; simp [spansFrom])
set_option maxRecDepth 100000 in
theorem merged_spec (c : CellD) (hok : CellOk c) : Fun Try.prog 52 [.agg (encC c)] (.v (.int .i64 (mergedN c))) := by
  refine Fun.enter (n := 15) (rs := [.tmp 2]) Try.func52 rfl Try.ntmps52 Try.results52 rfl (fun w F => ?_)
  refine TC.seq ?_
  refine TC.region ?_
  refine TL.box rfl (.agg _) rfl (fun g1 => ?_)
  refine TL.run1 (pure_assign rfl) rfl ?_
  refine TL.nil' ?_
  refine TC.seq ?_
  refine TC.region ?_
  first | refine TL.run1 (pure_fieldAddr Ty.f74_1 rfl (.succ (.zero _)) (List.cons_ne_nil _ _)) rfl ?_ | refine TL.run1 (pure_fieldAddr_own Ty.f74_1 rfl) rfl ?_
  first | refine TL.run1 (pure_fieldAddr Ty.f33_0 rfl (.zero _) (List.cons_ne_nil _ _)) rfl ?_ | refine TL.run1 (pure_fieldAddr_own Ty.f33_0 rfl) rfl ?_
  first | refine TL.run1 (pure_load1 Ty.one27 rfl) rfl ?_ | refine TL.run1 (pure_load1_own Ty.one27 rfl (by repeat (first | exact List.Mem.head _ | apply List.Mem.tail)) (by repeat (first | exact DropR.zero _ | apply DropR.succ))) rfl ?_
  first | refine TL.run1 (pure_call (value60_spec _ hok.1 hok.2) (.cons rfl (.cons rfl .nil)) Try.call55) rfl ?_ | refine TL.run1 (pure_call (value61_spec _ hok.1 hok.2) (.cons rfl (.cons rfl .nil)) Try.call55) rfl ?_
  refine TL.run1 (pure_assign rfl) rfl ?_
  refine TL.nil' ?_
  refine TC.seq ?_
  refine TC.regionCut [8, 9, 10, 11, 12, 13] 13 (getP c.props 61 0 ≠ 1 ∧ getP c.props 61 0 ≠ 2) ?_ ?_
  · skip
    refine TL.run1 (pure_move rfl) rfl ?_
    refine TL.run1 (pure_neq rfl rfl) rfl ?_
    refine TL.run1 (pure_move rfl) rfl ?_
    first | refine TL.splitP 10 rfl (fun hg10 => ?_) (fun hg10 => ?_) | refine TL.split 10 rfl (fun hg10 => ?_) (fun hg10 => ?_)
    · try dsimp only at hg10
      refine TL.runG rfl rfl (pure_move rfl) rfl ?_
      refine TL.runG rfl rfl (pure_neq rfl rfl) rfl ?_
      refine TL.run1 (pure_pick_true rfl rfl) rfl ?_
      refine TL.cutEnd (by repeat (first | exact Same.refl _ _ | refine Same.put rfl ?_)) rfl ?_
      first | (simp only [decide_eq_true_eq, Bool.false_eq_true, false_iff, true_iff, iff_true, iff_false, Bool.not_eq_true]; omega) | (simp_all; done) | (simp_all; omega) | grind
    · try dsimp only at hg10
      refine TL.passG rfl rfl rfl rfl ?_
      refine TL.passG rfl rfl rfl rfl ?_
      refine TL.run1 (pure_pick_false rfl rfl) rfl ?_
      refine TL.cutEnd (by repeat (first | exact Same.refl _ _ | refine Same.put rfl ?_)) rfl ?_
      first | (simp only [decide_eq_true_eq, Bool.false_eq_true, false_iff, true_iff, iff_true, iff_false, Bool.not_eq_true]; omega) | (simp_all; done) | (simp_all; omega) | grind
  first | refine TC.condD rfl (fun hc13 => ?_) (fun hc13 => ?_) | refine TC.condN rfl (fun hc13 => ?_) (fun hc13 => ?_) | refine TC.cond rfl (fun hc13 => ?_) (fun hc13 => ?_)
  · try dsimp only at hc13
    refine TC.seq ?_
    refine TC.region ?_
    refine TL.run1 (pure_assign rfl) rfl ?_
    refine TL.nil' ?_
    refine TC.ret ?_
    refine then_ret ?_
    exact ret_int rfl (by unfold mergedN; first | rw [if_pos ‹_›] | rw [if_neg ‹_›])
  · try dsimp only at hc13
    refine TC.skip' ?_
    refine TC.seq ?_
    refine TC.region ?_
    refine TL.run1 (pure_move rfl) rfl ?_
    refine TL.run1 (pure_assign rfl) rfl ?_
    refine TL.nil' ?_
    refine TC.ret ?_
    exact ret_int rfl (by unfold mergedN; first | rw [if_pos ‹_›] | rw [if_neg ‹_›])
end Go.Ob
