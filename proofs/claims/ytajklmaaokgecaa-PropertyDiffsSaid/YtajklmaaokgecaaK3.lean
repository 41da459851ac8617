import Derived.Test.YtajklmaaokgecaaK2
set_option linter.unusedVariables false
set_option linter.unusedSimpArgs false
namespace Go.Ob
open Go.Proofs

theorem mergeR_take (a b : List (Int × Int)) (i : Int) (h0 : 0 ≤ i) (h1 : i < b.length) : mergeR a (b.take (i + 1).toNat) = setP (mergeR a (b.take i.toNat)) (pAt b i).1 (pAt b i).2 := by
  rw [takeP_snoc b i h0 h1]; unfold mergeR; rw [List.foldl_append]; rfl
def encO : Option (Int × Int) → D
  | none => .v (.pointer none)
  | some p => .at_ [.v (.int .i64 p.1), .v (.int .i64 p.2)]
def encPairs (l : List (Option (Int × Int) × Option (Int × Int))) : List (List D) := l.map fun p => [encO p.1, encO p.2]
theorem encPairs_get {l : List (Option (Int × Int) × Option (Int × Int))} {k : Nat} {x : List D} (h : (encPairs l)[k]? = some x) : ∃ p, l[k]? = some p ∧ x = [encO p.1, encO p.2] := by
  simp only [encPairs, List.getElem?_map, Option.map_eq_some_iff] at h
  obtain ⟨p, h1, rfl⟩ := h
  exact ⟨p, h1, rfl⟩
theorem pairs_some (a b : List (Int × Int)) : ∀ p ∈ pairsL a b, p.1.isSome = true ∨ p.2.isSome = true := by
  fun_induction pairsL a b <;> simp_all
section
variable {P : Program} {H : Hp} {env : Env} {dst : Option Tmp} {ty : TypeId} {pos : String} {af : Array Edge} {gd : Option (Nat × Bool)} {t t2 e : TypeId} {x y : Operand}
theorem pure_neq_encO {o : Option (Int × Int)} (ht : P.underlying t = some (.pointer e)) (hx : opD env x = some (encO o)) (hy : opD env y = some (.v (.pointer none))) :
    Pure P H ⟨dst, .binOp .neq t x y t2, ty, pos, af, gd⟩ env (.v (.bool o.isSome)) := by
  cases o with
  | none => exact pure_neq_nil ht hx hy
  | some p => exact pure_neq_at ht hx hy
end
theorem mergeP_take {a b : List (Int × Int)} {k : Nat} {p : Option (Int × Int) × Option (Int × Int)} (h : (pairsL a b)[k]? = some p) : (mergeP a b).take (k + 1) = (mergeP a b).take k ++ [pickP p] := by
  have hl : k < (pairsL a b).length := (List.getElem?_eq_some_iff.1 h).1
  have he := (List.getElem?_eq_some_iff.1 h).2
  unfold mergeP
  rw [List.take_succ_eq_append_getElem (by simpa using hl)]
  simp [he]
/-! ### changes -/
structure Ch where
  key : Int
  old : Int
  new : Int
  had : Bool
  has : Bool
deriving DecidableEq
def encCh (c : Ch) : List D := [.v (.int .i64 c.key), .v (.int .i64 c.old), .v (.int .i64 c.new), .v (.bool c.had), .v (.bool c.has)]
def encD (l : List Ch) : List (List D) := l.map encCh
def ch0 : Ch := ⟨0, 0, 0, false, false⟩
def hAt (l : List Ch) (i : Int) : Ch := l.getD i.toNat ch0
theorem encD_len (l : List Ch) : (encD l).length = l.length := by simp [encD]
theorem encD_get (l : List Ch) (i : Int) (h0 : 0 ≤ i) (h1 : i < l.length) : (encD l)[i.toNat]? = some (encCh (hAt l i)) := by
  have : i.toNat < l.length := by omega
  simp [encD, hAt, this]
theorem encD_snoc (l : List Ch) (c : Ch) : encD (l ++ [c]) = encD l ++ [encCh c] := by simp [encD]
theorem encD_each (l : List Ch) : ∀ x ∈ encD l, x.length = 5 := by
  intro x hx; simp only [encD, List.mem_map] at hx; obtain ⟨s, _, rfl⟩ := hx; rfl
def chOf (p : Option (Int × Int) × Option (Int × Int)) : Ch := ⟨(pickP p).1, (p.1.getD (0, 0)).2, (p.2.getD (0, 0)).2, p.1.isSome, p.2.isSome⟩
def keepB (c : Ch) : Bool := decide (c.old ≠ c.new) || decide (c.had ≠ c.has)
def diffTo (l : List (Option (Int × Int) × Option (Int × Int))) : List Ch := (l.map chOf).filter keepB
def diffP (a b : List (Int × Int)) : List Ch := diffTo (pairsL a b)
theorem diffTo_take {l : List (Option (Int × Int) × Option (Int × Int))} {k : Nat} {p : Option (Int × Int) × Option (Int × Int)} (h : l[k]? = some p) : diffTo (l.take (k + 1)) = if keepB (chOf p) = true then diffTo (l.take k) ++ [chOf p] else diffTo (l.take k) := by
  have hl : k < l.length := (List.getElem?_eq_some_iff.1 h).1
  have he := (List.getElem?_eq_some_iff.1 h).2
  unfold diffTo
  rw [List.take_succ_eq_append_getElem hl, he, List.map_append, List.filter_append]
  by_cases hk : keepB (chOf p) = true
  · rw [if_pos hk, List.map_cons, List.filter_cons_of_pos hk]; rfl
  · rw [if_neg hk, List.map_cons, List.filter_cons_of_neg hk]; simp
theorem diffTo_len (l : List (Option (Int × Int) × Option (Int × Int))) : (diffTo l).length ≤ l.length := by
  unfold diffTo
  exact Nat.le_trans (List.length_filter_le _ _) (by simp)
set_option maxRecDepth 100000 in
theorem RMerge_spec (a b : List (Int × Int)) (hl : a.length + b.length ≤ 1000000) : Fun Try.prog 23 [.sl 2 (encP a), .sl 2 (encP b)] (.sl 2 (encP (mergeR a b))) := by
  refine Fun.enter (n := 40) (rs := [.tmp 4]) Try.func23 rfl Try.ntmps23 Try.results23 rfl (fun w F => ?_)
  refine TC.seq ?_
  refine TC.region ?_
  refine TL.run1 (pure_assign rfl) rfl ?_
  refine TL.nil' ?_
  refine TC.seq ?_
  refine TC.region ?_
  refine TL.run1 (pure_assign rfl) rfl ?_
  refine TL.nil' ?_
  refine TC.seq ?_
  refine TC.seq ?_
  refine TC.nilrow 59 2 ?_
  refine TC.region ?_
  refine TL.run1 (pure_assign rfl) rfl ?_
  refine TL.nil' ?_
  refine TC.block ?_
  refine TC.loopX (X := Int × Value) (fun (i, v) => [(0, .sl 2 (encP a)), (1, .sl 2 (encP b)), (5, .v v), (6, .v (.int .i64 i))]) (fun (i, v) => [.row v 59 2 (encP (a.take i.toNat))]) (fun (i, v) => (0 ≤ i) ∧ (i ≤ a.length)) (fun (i, v) => (a.length - i).toNat) (0, .slice none 0 0) ⟨by skip; repeat (first | exact Agree.nil | refine Agree.cons rfl ?_), by skip; repeat (first | exact List.nil_sublist _ | exact List.Sublist.refl _ | apply List.Sublist.cons_cons | apply List.Sublist.cons)⟩ ?_ ?_
  · skip
    exact ⟨by omega, by omega⟩
  rintro ⟨i, v⟩
  rintro ⟨h0, h1⟩
  show TC _ _ _ (Env.of [(0, .sl 2 (encP a)), (1, .sl 2 (encP b)), (5, .v v), (6, .v (.int .i64 i))]) [.row v 59 2 (encP (a.take i.toNat))]
  have hka := encP_len a
  have hkt := encP_len (a.take i.toNat)
  have htl : (a.take i.toNat).length ≤ a.length := by rw [List.length_take]; omega
  refine TC.seq ?_
  refine TC.seq ?_
  refine TC.region ?_
  refine TL.run1 (pure_move rfl) rfl ?_
  refine TL.run1 (pure_move rfl) rfl ?_
  first | refine TL.run1 (pure_len Ty.sl31 rfl) rfl ?_ | refine TL.run1 (pure_len_row Ty.sl31 rfl (by repeat (first | exact List.Mem.head _ | apply List.Mem.tail))) rfl ?_ | refine TL.run1 (pure_len_nil Ty.sl31 rfl) rfl ?_
  refine TL.run1 (pure_lss rfl rfl) rfl ?_
  refine TL.nil' ?_
  first | refine TC.condD rfl (fun hc11 => ?_) (fun hc11 => ?_) | refine TC.condN rfl (fun hc11 => ?_) (fun hc11 => ?_) | refine TC.cond rfl (fun hc11 => ?_) (fun hc11 => ?_)
  · try dsimp only at hc11
    refine TC.skip' ?_
    refine TC.seq ?_
    refine TC.block ?_
    have hrow := encP_get a i (by omega) (by omega)
    refine TC.region ?_
    refine TL.run1 (pure_move rfl) rfl ?_
    refine TL.run1 (pure_move rfl) rfl ?_
    refine TL.run1 (pure_move rfl) rfl ?_
    refine TL.run1 (pure_indexAddr Ty.sl31 rfl rfl (by omega) (by assumption) (List.cons_ne_nil _ _)) rfl ?_
    first | refine TL.run1 (pure_load Ty.agg59 rfl (.succ (.succ (.zero _)))) rfl ?_ | refine TL.run1 (pure_load_own Ty.agg59 rfl (by repeat (first | exact List.Mem.head _ | apply List.Mem.tail)) (by repeat (first | exact DropR.zero _ | apply DropR.succ)) (.succ (.succ (.zero _)))) rfl ?_
    refine TL.run1 (pure_buildSlice (xs := [.tmp 18]) Ty.app31 (by decide) rfl rfl (.cons rfl (.agg _) rfl .nil)) rfl ?_
    refine TL.append Ty.app31 rfl rfl (by intro _; repeat (first | exact UpdR.here _ | apply UpdR.there)) (by simp only [List.length_append, List.length_cons, List.length_nil]; omega) (by simp only [List.length_append, List.length_cons, List.length_nil]; omega) rfl (fun v20 hv20 => ?_)
    refine TL.run1 (pure_assign rfl) rfl ?_
    refine TL.nil ?_
    refine block_normal ?_
    refine then_normal ?_
    refine TC.region ?_
    refine TL.run1 (pure_move rfl) rfl ?_
    refine TL.run1 (pure_add rfl rfl (mkI64 (by omega) (by omega))) rfl ?_
    refine TL.run1 (pure_assign rfl) rfl ?_
    refine TL.nil ?_
    refine loop_next (i + 1, v20) ⟨?_, ?_⟩ ⟨by omega, by omega⟩ (by dsimp only; omega)
    · repeat (first | exact Agree.nil | refine Agree.cons rfl ?_)
    · dsimp only; rw [takeP_snoc a i h0 (by omega), encP_snoc']; repeat (first | exact List.nil_sublist _ | exact List.Sublist.refl _ | apply List.Sublist.cons_cons | apply List.Sublist.cons)
  · try dsimp only at hc11
    refine TC.exit ?_
    refine then_exit ?_
    refine loop_exit ?_
    refine block_here ?_
    refine then_normal ?_
    refine TC.seq ?_
    refine TC.seq ?_
    refine TC.frz 5 [] (List.nil_sublist _) rfl (.rowS (gone_nil (by repeat (first | exact List.Mem.head _ | apply List.Mem.tail))) (by decide) (encP_each _)) ?_
    rw [take_all a i (by omega)]
    refine TC.region ?_
    refine TL.run1 (pure_assign rfl) rfl ?_
    refine TL.nil' ?_
    refine TC.block ?_
    refine TC.loopX (X := Int) (fun i => [(1, .sl 2 (encP b)), (5, .sl 2 (encP (mergeR a (b.take i.toNat)))), (7, .v (.int .i64 i))]) (fun i => []) (fun i => (0 ≤ i) ∧ (i ≤ b.length)) (fun i => (b.length - i).toNat) (0) ⟨by skip; repeat (first | exact Agree.nil | refine Agree.cons rfl ?_), by skip; repeat (first | exact List.nil_sublist _ | exact List.Sublist.refl _ | apply List.Sublist.cons_cons | apply List.Sublist.cons)⟩ ?_ ?_
    · skip
      exact ⟨by omega, by omega⟩
    intro i
    rintro ⟨h0, h1⟩
    show TC _ _ _ (Env.of [(1, .sl 2 (encP b)), (5, .sl 2 (encP (mergeR a (b.take i.toNat)))), (7, .v (.int .i64 i))]) []
    have hkb := encP_len b
    have hml := mergeR_len (b.take i.toNat) a
    have htb : (b.take i.toNat).length ≤ b.length := by rw [List.length_take]; omega
    refine TC.seq ?_
    refine TC.seq ?_
    refine TC.region ?_
    refine TL.run1 (pure_move rfl) rfl ?_
    refine TL.run1 (pure_move rfl) rfl ?_
    first | refine TL.run1 (pure_len Ty.sl31 rfl) rfl ?_ | refine TL.run1 (pure_len_row Ty.sl31 rfl (by repeat (first | exact List.Mem.head _ | apply List.Mem.tail))) rfl ?_ | refine TL.run1 (pure_len_nil Ty.sl31 rfl) rfl ?_
    refine TL.run1 (pure_lss rfl rfl) rfl ?_
    refine TL.nil' ?_
    first | refine TC.condD rfl (fun hc24 => ?_) (fun hc24 => ?_) | refine TC.condN rfl (fun hc24 => ?_) (fun hc24 => ?_) | refine TC.cond rfl (fun hc24 => ?_) (fun hc24 => ?_)
    · try dsimp only at hc24
      refine TC.skip' ?_
      refine TC.seq ?_
      refine TC.block ?_
      have hrow := encP_get b i (by omega) (by omega)
      refine TC.draw Ty.follows (by kernel_rfl) ?_
      refine TD.run1 (pure_move rfl) rfl ?_
      refine TD.run1 (pure_move rfl) rfl ?_
      refine TD.run1 (pure_move rfl) rfl ?_
      refine TD.run1 (pure_indexAddr Ty.sl31 rfl rfl (by omega) (by assumption) (List.cons_ne_nil _ _)) rfl ?_
      first | refine TD.run1 (pure_fieldAddr Ty.f59_0 rfl (.zero _) (List.cons_ne_nil _ _)) rfl ?_ | refine TD.run1 (pure_fieldAddr_own Ty.f59_0 rfl) rfl ?_
      first | refine TD.run1 (pure_load1 Ty.one3 rfl) rfl ?_ | refine TD.run1 (pure_load1_own Ty.one3 rfl (by repeat (first | exact List.Mem.head _ | apply List.Mem.tail)) (by repeat (first | exact DropR.zero _ | apply DropR.succ))) rfl ?_
      refine TD.run1 (pure_move rfl) rfl ?_
      refine TD.run1 (pure_move rfl) rfl ?_
      refine TD.run1 (pure_indexAddr Ty.sl31 rfl rfl (by omega) (by assumption) (List.cons_ne_nil _ _)) rfl ?_
      first | refine TD.run1 (pure_fieldAddr Ty.f59_1 rfl (.succ (.zero _)) (List.cons_ne_nil _ _)) rfl ?_ | refine TD.run1 (pure_fieldAddr_own Ty.f59_1 rfl) rfl ?_
      first | refine TD.run1 (pure_load1 Ty.one3 rfl) rfl ?_ | refine TD.run1 (pure_load1_own Ty.one3 rfl (by repeat (first | exact List.Mem.head _ | apply List.Mem.tail)) (by repeat (first | exact DropR.zero _ | apply DropR.succ))) rfl ?_
      refine TD.run1 (pure_call (RSet_spec (mergeR a (b.take i.toNat)) _ _ (by omega)) (.cons rfl (.cons rfl (.cons rfl .nil))) Try.call37) rfl ?_
      refine TD.run1 (pure_assign rfl) rfl ?_
      refine TD.nil ?_
      refine block_normal ?_
      refine then_normal ?_
      refine TC.region ?_
      refine TL.run1 (pure_move rfl) rfl ?_
      refine TL.run1 (pure_add rfl rfl (mkI64 (by omega) (by omega))) rfl ?_
      refine TL.run1 (pure_assign rfl) rfl ?_
      refine TL.nil ?_
      refine loop_next (i + 1) ⟨?_, ?_⟩ ⟨by omega, by omega⟩ (by omega)
      · rw [mergeR_take a b i h0 (by omega)]; repeat (first | exact Agree.nil | refine Agree.cons rfl ?_)
      · repeat (first | exact List.nil_sublist _ | exact List.Sublist.refl _ | apply List.Sublist.cons_cons | apply List.Sublist.cons)
    · try dsimp only at hc24
      refine TC.exit ?_
      refine then_exit ?_
      refine loop_exit ?_
      refine block_here ?_
      refine then_normal ?_
      refine TC.seq ?_
      refine TC.region ?_
      refine TL.run1 (pure_move rfl) rfl ?_
      refine TL.run1 (pure_assign rfl) rfl ?_
      refine TL.nil' ?_
      refine TC.ret ?_
      exact ret_sl rfl (by rw [take_all b i (by omega)])
set_option maxRecDepth 100000 in
theorem Keys_spec (g : Int) : Fun Try.prog 24 [.v (.int .i64 g)] (.sl 1 (encI (keysG g))) := by
  refine Fun.enterF (n := 23) (rs := [.tmp 2]) Try.func24 rfl Try.ntmps24 Try.results24 rfl (fun w F => ?_)
  refine TC.seq ?_
  refine TC.region ?_
  refine TL.run1 (pure_assign rfl) rfl ?_
  refine TL.nil' ?_
  refine TC.seq ?_
  refine TC.region ?_
  refine TL.run1 (pure_assign rfl) rfl ?_
  refine TL.nil' ?_
  refine TC.seq ?_
  refine TC.seq ?_
  refine TC.nilrow 3 1 ?_
  refine TC.region ?_
  refine TL.run1 (pure_call (table_spec) .nil Try.call49) rfl ?_
  first | refine TL.run1 (pure_len Ty.sl80 rfl) rfl ?_ | refine TL.run1 (pure_len_row Ty.sl80 rfl (by repeat (first | exact List.Mem.head _ | apply List.Mem.tail))) rfl ?_ | refine TL.run1 (pure_len_nil Ty.sl80 rfl) rfl ?_
  refine TL.run1 (pure_move rfl) rfl ?_
  refine TL.nil' ?_
  refine TC.block ?_
  refine TC.loopX (X := Int × Value) (fun (i, v) => [(0, .v (.int .i64 g)), (3, .v v), (6, .sl 6 (encK tableK)), (7, .v (.int .i64 45)), (8, .v (.int .i64 i))]) (fun (i, v) => [.row v 3 1 (encI (keysTo g i.toNat))]) (fun (i, v) => (0 ≤ i) ∧ (i ≤ 45)) (fun (i, v) => (45 - i).toNat) (0, .slice none 0 0) ⟨by skip; repeat (first | exact Agree.nil | refine Agree.cons rfl ?_), by skip; repeat (first | exact List.nil_sublist _ | exact List.Sublist.refl _ | apply List.Sublist.cons_cons | apply List.Sublist.cons)⟩ ?_ ?_
  · skip
    exact ⟨by omega, by omega⟩
  rintro ⟨i, v⟩
  rintro ⟨h0, h1⟩
  show TC _ _ _ (Env.of [(0, .v (.int .i64 g)), (3, .v v), (6, .sl 6 (encK tableK)), (7, .v (.int .i64 45)), (8, .v (.int .i64 i))]) [.row v 3 1 (encI (keysTo g i.toNat))]
  have htl := encK_len tableK
  have htl2 := tableK_len
  have hkl := keysTo_len g i.toNat
  have hkk := encI_len (keysTo g i.toNat)
  refine TC.seq ?_
  refine TC.region ?_
  refine TL.run1 (pure_lss rfl rfl) rfl ?_
  refine TL.nil' ?_
  refine TC.seq ?_
  first | refine TC.condD rfl (fun hc9 => ?_) (fun hc9 => ?_) | refine TC.condN rfl (fun hc9 => ?_) (fun hc9 => ?_) | refine TC.cond rfl (fun hc9 => ?_) (fun hc9 => ?_)
  · try dsimp only at hc9
    refine TC.skip' ?_
    refine TC.seq ?_
    refine TC.block ?_
    refine TC.seq ?_
    have hrow := encK_get tableK i (by omega) (by omega)
    have hst : keysTo g (i + 1).toNat = if (eAt tableK i).group = g then (keysTo g i.toNat) ++ [(eAt tableK i).num] else (keysTo g i.toNat) := by (rw [show (i + 1).toNat = i.toNat + 1 by omega]; show (if (eAt tableK (i.toNat : Int)).group = g then keysTo g i.toNat ++ [(eAt tableK (i.toNat : Int)).num] else keysTo g i.toNat) = _; rw [show ((i.toNat : Nat) : Int) = i by omega])
    refine TC.region ?_
    refine TL.run1 (pure_indexAddr Ty.sl80 rfl rfl (by omega) (by assumption) (List.cons_ne_nil _ _)) rfl ?_
    first | refine TL.run1 (pure_load Ty.agg72 rfl (.succ (.succ (.succ (.succ (.succ (.succ (.zero _)))))))) rfl ?_ | refine TL.run1 (pure_load_own Ty.agg72 rfl (by repeat (first | exact List.Mem.head _ | apply List.Mem.tail)) (by repeat (first | exact DropR.zero _ | apply DropR.succ)) (.succ (.succ (.succ (.succ (.succ (.succ (.zero _)))))))) rfl ?_
    refine TL.alloc Ty.zero72 rfl (fun g5 => ?_)
    refine TL.store rfl rfl (.agg _) Try.sizeOf72 rfl (by repeat (first | exact UpdR.here _ | apply UpdR.there)) (by repeat (first | exact PutR.nil _ | apply PutR.here | apply PutR.skip)) ?_
    refine TL.nil' ?_
    refine TC.seq ?_
    refine TC.region ?_
    first | refine TL.run1 (pure_fieldAddr Ty.f72_1 rfl (.succ (.zero _)) (List.cons_ne_nil _ _)) rfl ?_ | refine TL.run1 (pure_fieldAddr_own Ty.f72_1 rfl) rfl ?_
    first | refine TL.run1 (pure_load1 Ty.one3 rfl) rfl ?_ | refine TL.run1 (pure_load1_own Ty.one3 rfl (by repeat (first | exact List.Mem.head _ | apply List.Mem.tail)) (by repeat (first | exact DropR.zero _ | apply DropR.succ))) rfl ?_
    refine TL.run1 (pure_move rfl) rfl ?_
    refine TL.run1 (pure_eql rfl rfl) rfl ?_
    refine TL.nil' ?_
    first | refine TC.condD rfl (fun hc15 => ?_) (fun hc15 => ?_) | refine TC.condN rfl (fun hc15 => ?_) (fun hc15 => ?_) | refine TC.cond rfl (fun hc15 => ?_) (fun hc15 => ?_)
    · try dsimp only at hc15
      refine TC.region ?_
      refine TL.run1 (pure_move rfl) rfl ?_
      first | refine TL.run1 (pure_fieldAddr Ty.f72_0 rfl (.zero _) (List.cons_ne_nil _ _)) rfl ?_ | refine TL.run1 (pure_fieldAddr_own Ty.f72_0 rfl) rfl ?_
      first | refine TL.run1 (pure_load1 Ty.one3 rfl) rfl ?_ | refine TL.run1 (pure_load1_own Ty.one3 rfl (by repeat (first | exact List.Mem.head _ | apply List.Mem.tail)) (by repeat (first | exact DropR.zero _ | apply DropR.succ))) rfl ?_
      refine TL.run1 (pure_buildSlice (xs := [.tmp 18]) Ty.app38 (by decide) rfl rfl (.cons rfl (.one rfl) rfl .nil)) rfl ?_
      refine TL.append Ty.app38 rfl rfl (by intro _; repeat (first | exact UpdR.here _ | apply UpdR.there)) (by simp only [List.length_append, List.length_cons, List.length_nil]; omega) (by simp only [List.length_append, List.length_cons, List.length_nil]; omega) rfl (fun v20 hv20 => ?_)
      refine TL.run1 (pure_assign rfl) rfl ?_
      refine TL.nil ?_
      refine block_normal ?_
      refine then_normal ?_
      refine TC.region ?_
      refine TL.run1 (pure_add rfl rfl (mkI64 (by omega) (by omega))) rfl ?_
      refine TL.run1 (pure_move rfl) rfl ?_
      refine TL.nil ?_
      refine loop_next (i + 1, v20) ⟨?_, ?_⟩ ⟨by omega, by omega⟩ (by dsimp only; omega)
      · repeat (first | exact Agree.nil | refine Agree.cons rfl ?_)
      · dsimp only; rw [hst, if_pos hc15]
        rw [encI_snoc]; repeat (first | exact List.nil_sublist _ | exact List.Sublist.refl _ | apply List.Sublist.cons_cons | apply List.Sublist.cons)
    · try dsimp only at hc15
      refine TC.skip ?_
      refine block_normal ?_
      refine then_normal ?_
      refine TC.region ?_
      refine TL.run1 (pure_add rfl rfl (mkI64 (by omega) (by omega))) rfl ?_
      refine TL.run1 (pure_move rfl) rfl ?_
      refine TL.nil ?_
      refine loop_next (i + 1, v) ⟨?_, ?_⟩ ⟨by omega, by omega⟩ (by dsimp only; omega)
      · repeat (first | exact Agree.nil | refine Agree.cons rfl ?_)
      · dsimp only; rw [hst, if_neg hc15]
        repeat (first | exact List.nil_sublist _ | exact List.Sublist.refl _ | apply List.Sublist.cons_cons | apply List.Sublist.cons)
  · try dsimp only at hc9
    refine TC.exit ?_
    refine then_exit ?_
    refine loop_exit ?_
    refine block_here ?_
    refine then_normal ?_
    refine TC.seq ?_
    refine TC.region ?_
    refine TL.run1 (pure_move rfl) rfl ?_
    refine TL.run1 (pure_assign rfl) rfl ?_
    refine TL.nil' ?_
    refine TC.ret ?_
    rw [show i.toNat = 45 by omega]
    exact retF_row rfl (by repeat (first | exact List.Mem.head _ | apply List.Mem.tail)) (by decide) (encI_each _) rfl
set_option maxRecDepth 100000 in
theorem RKeys_spec (g : Int) : Fun Try.prog 25 [.v (.int .i64 g)] (.sl 1 (encI (keysG g))) := by
  refine Fun.enterF (n := 29) (rs := [.tmp 2]) Try.func25 rfl Try.ntmps25 Try.results25 rfl (fun w F => ?_)
  refine TC.seq ?_
  refine TC.region ?_
  refine TL.run1 (pure_assign rfl) rfl ?_
  refine TL.nil' ?_
  refine TC.seq ?_
  refine TC.region ?_
  refine TL.run1 (pure_assign rfl) rfl ?_
  refine TL.nil' ?_
  refine TC.seq ?_
  refine TC.region ?_
  refine TL.run1 (pure_call (Table_spec) .nil Try.call44) rfl ?_
  refine TL.run1 (pure_assign rfl) rfl ?_
  refine TL.nil' ?_
  refine TC.seq ?_
  refine TC.seq ?_
  refine TC.nilrow 3 1 ?_
  refine TC.region ?_
  refine TL.run1 (pure_assign rfl) rfl ?_
  refine TL.nil' ?_
  refine TC.block ?_
  refine TC.loopX (X := Int × Value) (fun (i, v) => [(0, .v (.int .i64 g)), (3, .v v), (4, .sl 6 (encK tableK)), (5, .v (.int .i64 i))]) (fun (i, v) => [.row v 3 1 (encI (keysTo g i.toNat))]) (fun (i, v) => (0 ≤ i) ∧ (i ≤ 45)) (fun (i, v) => (45 - i).toNat) (0, .slice none 0 0) ⟨by skip; repeat (first | exact Agree.nil | refine Agree.cons rfl ?_), by skip; repeat (first | exact List.nil_sublist _ | exact List.Sublist.refl _ | apply List.Sublist.cons_cons | apply List.Sublist.cons)⟩ ?_ ?_
  · skip
    exact ⟨by omega, by omega⟩
  rintro ⟨i, v⟩
  rintro ⟨h0, h1⟩
  show TC _ _ _ (Env.of [(0, .v (.int .i64 g)), (3, .v v), (4, .sl 6 (encK tableK)), (5, .v (.int .i64 i))]) [.row v 3 1 (encI (keysTo g i.toNat))]
  have htl := encK_len tableK
  have htl2 := tableK_len
  have hkl := keysTo_len g i.toNat
  have hkk := encI_len (keysTo g i.toNat)
  refine TC.seq ?_
  refine TC.seq ?_
  refine TC.region ?_
  refine TL.run1 (pure_move rfl) rfl ?_
  refine TL.run1 (pure_move rfl) rfl ?_
  first | refine TL.run1 (pure_len Ty.sl69 rfl) rfl ?_ | refine TL.run1 (pure_len_row Ty.sl69 rfl (by repeat (first | exact List.Mem.head _ | apply List.Mem.tail))) rfl ?_ | refine TL.run1 (pure_len_nil Ty.sl69 rfl) rfl ?_
  refine TL.run1 (pure_lss rfl rfl) rfl ?_
  refine TL.nil' ?_
  first | refine TC.condD rfl (fun hc10 => ?_) (fun hc10 => ?_) | refine TC.condN rfl (fun hc10 => ?_) (fun hc10 => ?_) | refine TC.cond rfl (fun hc10 => ?_) (fun hc10 => ?_)
  · try dsimp only at hc10
    refine TC.skip' ?_
    refine TC.seq ?_
    refine TC.block ?_
    refine TC.seq ?_
    have hrow := encK_get tableK i (by omega) (by omega)
    have hst : keysTo g (i + 1).toNat = if (eAt tableK i).group = g then (keysTo g i.toNat) ++ [(eAt tableK i).num] else (keysTo g i.toNat) := by (rw [show (i + 1).toNat = i.toNat + 1 by omega]; show (if (eAt tableK (i.toNat : Int)).group = g then keysTo g i.toNat ++ [(eAt tableK (i.toNat : Int)).num] else keysTo g i.toNat) = _; rw [show ((i.toNat : Nat) : Int) = i by omega])
    refine TC.region ?_
    refine TL.run1 (pure_move rfl) rfl ?_
    refine TL.run1 (pure_move rfl) rfl ?_
    refine TL.run1 (pure_indexAddr Ty.sl69 rfl rfl (by omega) (by assumption) (List.cons_ne_nil _ _)) rfl ?_
    first | refine TL.run1 (pure_fieldAddr Ty.f23_1 rfl (.succ (.zero _)) (List.cons_ne_nil _ _)) rfl ?_ | refine TL.run1 (pure_fieldAddr_own Ty.f23_1 rfl) rfl ?_
    first | refine TL.run1 (pure_load1 Ty.one3 rfl) rfl ?_ | refine TL.run1 (pure_load1_own Ty.one3 rfl (by repeat (first | exact List.Mem.head _ | apply List.Mem.tail)) (by repeat (first | exact DropR.zero _ | apply DropR.succ))) rfl ?_
    refine TL.run1 (pure_move rfl) rfl ?_
    refine TL.run1 (pure_eql rfl rfl) rfl ?_
    refine TL.nil' ?_
    first | refine TC.condD rfl (fun hc19 => ?_) (fun hc19 => ?_) | refine TC.condN rfl (fun hc19 => ?_) (fun hc19 => ?_) | refine TC.cond rfl (fun hc19 => ?_) (fun hc19 => ?_)
    · try dsimp only at hc19
      refine TC.region ?_
      refine TL.run1 (pure_move rfl) rfl ?_
      refine TL.run1 (pure_move rfl) rfl ?_
      refine TL.run1 (pure_move rfl) rfl ?_
      refine TL.run1 (pure_indexAddr Ty.sl69 rfl rfl (by omega) (by assumption) (List.cons_ne_nil _ _)) rfl ?_
      first | refine TL.run1 (pure_fieldAddr Ty.f23_0 rfl (.zero _) (List.cons_ne_nil _ _)) rfl ?_ | refine TL.run1 (pure_fieldAddr_own Ty.f23_0 rfl) rfl ?_
      first | refine TL.run1 (pure_load1 Ty.one3 rfl) rfl ?_ | refine TL.run1 (pure_load1_own Ty.one3 rfl (by repeat (first | exact List.Mem.head _ | apply List.Mem.tail)) (by repeat (first | exact DropR.zero _ | apply DropR.succ))) rfl ?_
      refine TL.run1 (pure_buildSlice (xs := [.tmp 25]) Ty.app38 (by decide) rfl rfl (.cons rfl (.one rfl) rfl .nil)) rfl ?_
      refine TL.append Ty.app38 rfl rfl (by intro _; repeat (first | exact UpdR.here _ | apply UpdR.there)) (by simp only [List.length_append, List.length_cons, List.length_nil]; omega) (by simp only [List.length_append, List.length_cons, List.length_nil]; omega) rfl (fun v27 hv27 => ?_)
      refine TL.run1 (pure_assign rfl) rfl ?_
      refine TL.nil ?_
      refine block_normal ?_
      refine then_normal ?_
      refine TC.region ?_
      refine TL.run1 (pure_move rfl) rfl ?_
      refine TL.run1 (pure_add rfl rfl (mkI64 (by omega) (by omega))) rfl ?_
      refine TL.run1 (pure_assign rfl) rfl ?_
      refine TL.nil ?_
      refine loop_next (i + 1, v27) ⟨?_, ?_⟩ ⟨by omega, by omega⟩ (by dsimp only; omega)
      · repeat (first | exact Agree.nil | refine Agree.cons rfl ?_)
      · dsimp only; rw [hst, if_pos hc19]
        rw [encI_snoc]; repeat (first | exact List.nil_sublist _ | exact List.Sublist.refl _ | apply List.Sublist.cons_cons | apply List.Sublist.cons)
    · try dsimp only at hc19
      refine TC.skip ?_
      refine block_normal ?_
      refine then_normal ?_
      refine TC.region ?_
      refine TL.run1 (pure_move rfl) rfl ?_
      refine TL.run1 (pure_add rfl rfl (mkI64 (by omega) (by omega))) rfl ?_
      refine TL.run1 (pure_assign rfl) rfl ?_
      refine TL.nil ?_
      refine loop_next (i + 1, v) ⟨?_, ?_⟩ ⟨by omega, by omega⟩ (by dsimp only; omega)
      · repeat (first | exact Agree.nil | refine Agree.cons rfl ?_)
      · dsimp only; rw [hst, if_neg hc19]
        repeat (first | exact List.nil_sublist _ | exact List.Sublist.refl _ | apply List.Sublist.cons_cons | apply List.Sublist.cons)
  · try dsimp only at hc10
    refine TC.exit ?_
    refine then_exit ?_
    refine loop_exit ?_
    refine block_here ?_
    refine then_normal ?_
    refine TC.seq ?_
    refine TC.region ?_
    refine TL.run1 (pure_move rfl) rfl ?_
    refine TL.run1 (pure_assign rfl) rfl ?_
    refine TL.nil' ?_
    refine TC.ret ?_
    rw [show i.toNat = 45 by omega]
    exact retF_row rfl (by repeat (first | exact List.Mem.head _ | apply List.Mem.tail)) (by decide) (encI_each _) rfl
set_option maxRecDepth 100000 in
theorem Find_spec (name : ByteArray) : Fun Try.prog 26 [.v (.string name)] (.tup [.v (.int .i64 (namedK name)), .v (.int .i64 (if namedK name = 0 then 4 else 0))]) := by
  refine Fun.enter (n := 19) (rs := [.tmp 2, .tmp 3]) Try.func26 rfl Try.ntmps26 Try.results26 rfl (fun w F => ?_)
  refine TC.seq ?_
  refine TC.region ?_
  refine TL.run1 (pure_assign rfl) rfl ?_
  refine TL.run1 (pure_assign rfl) rfl ?_
  refine TL.nil' ?_
  refine TC.seq ?_
  refine TC.seq ?_
  refine TC.region ?_
  refine TL.run1 (pure_call (table_spec) .nil Try.call49) rfl ?_
  first | refine TL.run1 (pure_len Ty.sl80 rfl) rfl ?_ | refine TL.run1 (pure_len_row Ty.sl80 rfl (by repeat (first | exact List.Mem.head _ | apply List.Mem.tail))) rfl ?_ | refine TL.run1 (pure_len_nil Ty.sl80 rfl) rfl ?_
  refine TL.run1 (pure_move rfl) rfl ?_
  refine TL.nil' ?_
  refine TC.block ?_
  refine TC.loopX (X := Int) (fun i => [(0, .v (.string name)), (6, .sl 6 (encK tableK)), (7, .v (.int .i64 45)), (8, .v (.int .i64 i))]) (fun i => []) (fun i => (0 ≤ i) ∧ (i ≤ 45) ∧ (∀ j : Int, 0 ≤ j → j < i → (eAt tableK j).name ≠ name)) (fun i => (45 - i).toNat) (0) ⟨by skip; repeat (first | exact Agree.nil | refine Agree.cons rfl ?_), by skip; repeat (first | exact List.nil_sublist _ | exact List.Sublist.refl _ | apply List.Sublist.cons_cons | apply List.Sublist.cons)⟩ ?_ ?_
  · skip
    exact ⟨by omega, by omega, fun j _ _ => by omega⟩
  intro i
  rintro ⟨h0, h1, h2⟩
  show TC _ _ _ (Env.of [(0, .v (.string name)), (6, .sl 6 (encK tableK)), (7, .v (.int .i64 45)), (8, .v (.int .i64 i))]) []
  have htl := encK_len tableK
  have htl2 := tableK_len
  refine TC.seq ?_
  refine TC.region ?_
  refine TL.run1 (pure_lss rfl rfl) rfl ?_
  refine TL.nil' ?_
  refine TC.seq ?_
  first | refine TC.condD rfl (fun hc9 => ?_) (fun hc9 => ?_) | refine TC.condN rfl (fun hc9 => ?_) (fun hc9 => ?_) | refine TC.cond rfl (fun hc9 => ?_) (fun hc9 => ?_)
  · try dsimp only at hc9
    refine TC.skip' ?_
    refine TC.seq ?_
    refine TC.block ?_
    refine TC.seq ?_
    have hrow := encK_get tableK i (by omega) (by omega)
    refine TC.region ?_
    refine TL.run1 (pure_indexAddr Ty.sl80 rfl rfl (by omega) (by assumption) (List.cons_ne_nil _ _)) rfl ?_
    first | refine TL.run1 (pure_load Ty.agg72 rfl (.succ (.succ (.succ (.succ (.succ (.succ (.zero _)))))))) rfl ?_ | refine TL.run1 (pure_load_own Ty.agg72 rfl (by repeat (first | exact List.Mem.head _ | apply List.Mem.tail)) (by repeat (first | exact DropR.zero _ | apply DropR.succ)) (.succ (.succ (.succ (.succ (.succ (.succ (.zero _)))))))) rfl ?_
    refine TL.alloc Ty.zero72 rfl (fun g5 => ?_)
    refine TL.store rfl rfl (.agg _) Try.sizeOf72 rfl (by repeat (first | exact UpdR.here _ | apply UpdR.there)) (by repeat (first | exact PutR.nil _ | apply PutR.here | apply PutR.skip)) ?_
    refine TL.nil' ?_
    refine TC.seq ?_
    refine TC.region ?_
    first | refine TL.run1 (pure_fieldAddr Ty.f72_5 rfl (.succ (.succ (.succ (.succ (.succ (.zero _)))))) (List.cons_ne_nil _ _)) rfl ?_ | refine TL.run1 (pure_fieldAddr_own Ty.f72_5 rfl) rfl ?_
    first | refine TL.run1 (pure_load1 Ty.one9 rfl) rfl ?_ | refine TL.run1 (pure_load1_own Ty.one9 rfl (by repeat (first | exact List.Mem.head _ | apply List.Mem.tail)) (by repeat (first | exact DropR.zero _ | apply DropR.succ))) rfl ?_
    refine TL.run1 (pure_move rfl) rfl ?_
    refine TL.run1 (pure_eql_string rfl rfl) rfl ?_
    refine TL.nil' ?_
    first | refine TC.condD rfl (fun hc15 => ?_) (fun hc15 => ?_) | refine TC.condN rfl (fun hc15 => ?_) (fun hc15 => ?_) | refine TC.cond rfl (fun hc15 => ?_) (fun hc15 => ?_)
    · try dsimp only at hc15
      have hnm := named_at name i h0 (by omega) hc15 h2
      have hnz := tableK_num i h0 (by omega)
      refine TC.seq ?_
      refine TC.region ?_
      first | refine TL.run1 (pure_fieldAddr Ty.f72_0 rfl (.zero _) (List.cons_ne_nil _ _)) rfl ?_ | refine TL.run1 (pure_fieldAddr_own Ty.f72_0 rfl) rfl ?_
      first | refine TL.run1 (pure_load1 Ty.one3 rfl) rfl ?_ | refine TL.run1 (pure_load1_own Ty.one3 rfl (by repeat (first | exact List.Mem.head _ | apply List.Mem.tail)) (by repeat (first | exact DropR.zero _ | apply DropR.succ))) rfl ?_
      refine TL.run1 (pure_assign rfl) rfl ?_
      refine TL.run1 (pure_assign rfl) rfl ?_
      refine TL.nil' ?_
      refine TC.ret ?_
      refine block_ret ?_
      refine then_ret ?_
      refine loop_ret ?_
      refine block_ret ?_
      refine then_ret ?_
      exact ret2 (.inl rfl) rfl rfl (by rw [hnm, if_neg hnz])
    · try dsimp only at hc15
      refine TC.skip ?_
      refine block_normal ?_
      refine then_normal ?_
      refine TC.region ?_
      refine TL.run1 (pure_add rfl rfl (mkI64 (by omega) (by omega))) rfl ?_
      refine TL.run1 (pure_move rfl) rfl ?_
      refine TL.nil ?_
      refine loop_next (i + 1) ⟨by repeat (first | exact Agree.nil | refine Agree.cons rfl ?_), by repeat (first | exact List.nil_sublist _ | exact List.Sublist.refl _ | apply List.Sublist.cons_cons | apply List.Sublist.cons)⟩ ⟨by omega, by omega, fun j a b => ?_⟩ (by omega)
      rcases Int.lt_or_eq_of_le (show j ≤ i by omega) with h | h
      · exact h2 j a h
      · rw [h]; exact hc15
  · try dsimp only at hc9
    refine TC.exit ?_
    refine then_exit ?_
    refine loop_exit ?_
    refine block_here ?_
    refine then_normal ?_
    refine TC.seq ?_
    have hnm := named_none name fun j a b => h2 j a (by omega)
    refine TC.region ?_
    refine TL.run1 (pure_assign rfl) rfl ?_
    refine TL.run1 (pure_assign rfl) rfl ?_
    refine TL.nil' ?_
    refine TC.ret ?_
    exact ret2 (.inl rfl) rfl rfl (by rw [hnm]; rfl)
set_option maxRecDepth 100000 in
theorem Named_spec (name : ByteArray) : Fun Try.prog 27 [.v (.string name)] (.v (.int .i64 (namedK name))) := by
  refine Fun.enter (n := 24) (rs := [.tmp 2]) Try.func27 rfl Try.ntmps27 Try.results27 rfl (fun w F => ?_)
  refine TC.seq ?_
  refine TC.region ?_
  refine TL.run1 (pure_assign rfl) rfl ?_
  refine TL.nil' ?_
  refine TC.seq ?_
  refine TC.region ?_
  refine TL.run1 (pure_call (Table_spec) .nil Try.call44) rfl ?_
  refine TL.run1 (pure_assign rfl) rfl ?_
  refine TL.nil' ?_
  refine TC.seq ?_
  refine TC.seq ?_
  refine TC.region ?_
  refine TL.run1 (pure_assign rfl) rfl ?_
  refine TL.nil' ?_
  refine TC.block ?_
  refine TC.loopX (X := Int) (fun i => [(0, .v (.string name)), (3, .sl 6 (encK tableK)), (4, .v (.int .i64 i))]) (fun i => []) (fun i => (0 ≤ i) ∧ (i ≤ 45) ∧ (∀ j : Int, 0 ≤ j → j < i → (eAt tableK j).name ≠ name)) (fun i => (45 - i).toNat) (0) ⟨by skip; repeat (first | exact Agree.nil | refine Agree.cons rfl ?_), by skip; repeat (first | exact List.nil_sublist _ | exact List.Sublist.refl _ | apply List.Sublist.cons_cons | apply List.Sublist.cons)⟩ ?_ ?_
  · skip
    exact ⟨by omega, by omega, fun j _ _ => by omega⟩
  intro i
  rintro ⟨h0, h1, h2⟩
  show TC _ _ _ (Env.of [(0, .v (.string name)), (3, .sl 6 (encK tableK)), (4, .v (.int .i64 i))]) []
  have htl := encK_len tableK
  have htl2 := tableK_len
  refine TC.seq ?_
  refine TC.seq ?_
  refine TC.region ?_
  refine TL.run1 (pure_move rfl) rfl ?_
  refine TL.run1 (pure_move rfl) rfl ?_
  first | refine TL.run1 (pure_len Ty.sl69 rfl) rfl ?_ | refine TL.run1 (pure_len_row Ty.sl69 rfl (by repeat (first | exact List.Mem.head _ | apply List.Mem.tail))) rfl ?_ | refine TL.run1 (pure_len_nil Ty.sl69 rfl) rfl ?_
  refine TL.run1 (pure_lss rfl rfl) rfl ?_
  refine TL.nil' ?_
  first | refine TC.condD rfl (fun hc9 => ?_) (fun hc9 => ?_) | refine TC.condN rfl (fun hc9 => ?_) (fun hc9 => ?_) | refine TC.cond rfl (fun hc9 => ?_) (fun hc9 => ?_)
  · try dsimp only at hc9
    refine TC.skip' ?_
    refine TC.seq ?_
    refine TC.block ?_
    refine TC.seq ?_
    have hrow := encK_get tableK i (by omega) (by omega)
    refine TC.region ?_
    refine TL.run1 (pure_move rfl) rfl ?_
    refine TL.run1 (pure_move rfl) rfl ?_
    refine TL.run1 (pure_indexAddr Ty.sl69 rfl rfl (by omega) (by assumption) (List.cons_ne_nil _ _)) rfl ?_
    first | refine TL.run1 (pure_fieldAddr Ty.f23_5 rfl (.succ (.succ (.succ (.succ (.succ (.zero _)))))) (List.cons_ne_nil _ _)) rfl ?_ | refine TL.run1 (pure_fieldAddr_own Ty.f23_5 rfl) rfl ?_
    first | refine TL.run1 (pure_load1 Ty.one9 rfl) rfl ?_ | refine TL.run1 (pure_load1_own Ty.one9 rfl (by repeat (first | exact List.Mem.head _ | apply List.Mem.tail)) (by repeat (first | exact DropR.zero _ | apply DropR.succ))) rfl ?_
    refine TL.run1 (pure_move rfl) rfl ?_
    refine TL.run1 (pure_eql_string rfl rfl) rfl ?_
    refine TL.nil' ?_
    first | refine TC.condD rfl (fun hc18 => ?_) (fun hc18 => ?_) | refine TC.condN rfl (fun hc18 => ?_) (fun hc18 => ?_) | refine TC.cond rfl (fun hc18 => ?_) (fun hc18 => ?_)
    · try dsimp only at hc18
      have hnm := named_at name i h0 (by omega) hc18 h2
      refine TC.seq ?_
      refine TC.region ?_
      refine TL.run1 (pure_move rfl) rfl ?_
      refine TL.run1 (pure_move rfl) rfl ?_
      refine TL.run1 (pure_indexAddr Ty.sl69 rfl rfl (by omega) (by assumption) (List.cons_ne_nil _ _)) rfl ?_
      first | refine TL.run1 (pure_fieldAddr Ty.f23_0 rfl (.zero _) (List.cons_ne_nil _ _)) rfl ?_ | refine TL.run1 (pure_fieldAddr_own Ty.f23_0 rfl) rfl ?_
      first | refine TL.run1 (pure_load1 Ty.one3 rfl) rfl ?_ | refine TL.run1 (pure_load1_own Ty.one3 rfl (by repeat (first | exact List.Mem.head _ | apply List.Mem.tail)) (by repeat (first | exact DropR.zero _ | apply DropR.succ))) rfl ?_
      refine TL.run1 (pure_assign rfl) rfl ?_
      refine TL.nil' ?_
      refine TC.ret ?_
      refine block_ret ?_
      refine then_ret ?_
      refine loop_ret ?_
      refine block_ret ?_
      refine then_ret ?_
      exact ret_int rfl hnm.symm
    · try dsimp only at hc18
      refine TC.skip ?_
      refine block_normal ?_
      refine then_normal ?_
      refine TC.region ?_
      refine TL.run1 (pure_move rfl) rfl ?_
      refine TL.run1 (pure_add rfl rfl (mkI64 (by omega) (by omega))) rfl ?_
      refine TL.run1 (pure_assign rfl) rfl ?_
      refine TL.nil ?_
      refine loop_next (i + 1) ⟨by repeat (first | exact Agree.nil | refine Agree.cons rfl ?_), by repeat (first | exact List.nil_sublist _ | exact List.Sublist.refl _ | apply List.Sublist.cons_cons | apply List.Sublist.cons)⟩ ⟨by omega, by omega, fun j a b => ?_⟩ (by omega)
      rcases Int.lt_or_eq_of_le (show j ≤ i by omega) with h | h
      · exact h2 j a h
      · rw [h]; exact hc18
  · try dsimp only at hc9
    refine TC.exit ?_
    refine then_exit ?_
    refine loop_exit ?_
    refine block_here ?_
    refine then_normal ?_
    refine TC.seq ?_
    have hnm := named_none name fun j a b => h2 j a (by omega)
    refine TC.region ?_
    refine TL.run1 (pure_assign rfl) rfl ?_
    refine TL.nil' ?_
    refine TC.ret ?_
    exact ret_int rfl hnm.symm

theorem look_at (l : List (Int × Int)) (key : Int) : ∀ (i : Int), 0 ≤ i → i < l.length → (pAt l i).1 = key → (∀ j : Int, 0 ≤ j → j < i → (pAt l j).1 ≠ key) → lookP l key = some (pAt l i).2 := by
  have key' : ∀ (l : List (Int × Int)) (n : Nat), n < l.length → (l.getD n (0, 0)).1 = key → (∀ m, m < n → (l.getD m (0, 0)).1 ≠ key) → lookP l key = some (l.getD n (0, 0)).2 := by
    intro l
    induction l with
    | nil => intro n h; simp at h
    | cons p l ih =>
      intro n hn h1 h2
      cases n with
      | zero => simp only [List.getD_cons_zero] at h1 ⊢; rw [lookP, if_pos h1]
      | succ n =>
        have := h2 0 (by omega)
        simp only [List.getD_cons_zero] at this
        rw [lookP, if_neg this, ih n (by simpa using hn) (by simpa using h1) (fun m hm => by have := h2 (m + 1) (by omega); simpa using this)]
        simp
  intro i h0 h1 h2 h3
  exact key' l i.toNat (by omega) h2 (fun m hm => by have := h3 m (by omega) (by omega); simpa [pAt] using this)
theorem look_none (l : List (Int × Int)) (key : Int) (h : ∀ j : Int, 0 ≤ j → j < l.length → (pAt l j).1 ≠ key) : lookP l key = none := lookP_none l key fun p hp => by
  obtain ⟨n, hn, rfl⟩ := List.getElem_of_mem hp
  have := h n (by omega) (by omega)
  simpa [pAt, hn] using this
set_option maxRecDepth 100000 in
theorem RGet_spec (l : List (Int × Int)) (key : Int) (hl : l.length ≤ 1000000) : Fun Try.prog 29 [.sl 2 (encP l), .v (.int .i64 key)] (.tup [.v (.int .i64 ((lookP l key).getD 0)), .v (.bool (lookP l key).isSome)]) := by
  refine Fun.enter (n := 25) (rs := [.tmp 4, .tmp 5]) Try.func29 rfl Try.ntmps29 Try.results29 rfl (fun w F => ?_)
  refine TC.seq ?_
  refine TC.region ?_
  refine TL.run1 (pure_assign rfl) rfl ?_
  refine TL.run1 (pure_assign rfl) rfl ?_
  refine TL.nil' ?_
  refine TC.seq ?_
  refine TC.seq ?_
  refine TC.region ?_
  refine TL.run1 (pure_assign rfl) rfl ?_
  refine TL.nil' ?_
  refine TC.block ?_
  refine TC.loopX (X := Int) (fun i => [(0, .sl 2 (encP l)), (1, .v (.int .i64 key)), (6, .v (.int .i64 i))]) (fun i => []) (fun i => (0 ≤ i) ∧ (i ≤ l.length) ∧ (∀ j : Int, 0 ≤ j → j < i → (pAt l j).1 ≠ key)) (fun i => (l.length - i).toNat) (0) ⟨by skip; repeat (first | exact Agree.nil | refine Agree.cons rfl ?_), by skip; repeat (first | exact List.nil_sublist _ | exact List.Sublist.refl _ | apply List.Sublist.cons_cons | apply List.Sublist.cons)⟩ ?_ ?_
  · skip
    exact ⟨by omega, by omega, fun j _ _ => by omega⟩
  intro i
  rintro ⟨h0, h1, h2⟩
  show TC _ _ _ (Env.of [(0, .sl 2 (encP l)), (1, .v (.int .i64 key)), (6, .v (.int .i64 i))]) []
  have hk := encP_len l
  refine TC.seq ?_
  refine TC.seq ?_
  refine TC.region ?_
  refine TL.run1 (pure_move rfl) rfl ?_
  refine TL.run1 (pure_move rfl) rfl ?_
  first | refine TL.run1 (pure_len Ty.sl31 rfl) rfl ?_ | refine TL.run1 (pure_len_row Ty.sl31 rfl (by repeat (first | exact List.Mem.head _ | apply List.Mem.tail))) rfl ?_ | refine TL.run1 (pure_len_nil Ty.sl31 rfl) rfl ?_
  refine TL.run1 (pure_lss rfl rfl) rfl ?_
  refine TL.nil' ?_
  first | refine TC.condD rfl (fun hc10 => ?_) (fun hc10 => ?_) | refine TC.condN rfl (fun hc10 => ?_) (fun hc10 => ?_) | refine TC.cond rfl (fun hc10 => ?_) (fun hc10 => ?_)
  · try dsimp only at hc10
    refine TC.skip' ?_
    refine TC.seq ?_
    refine TC.block ?_
    refine TC.seq ?_
    have hrow := encP_get l i (by omega) (by omega)
    refine TC.region ?_
    refine TL.run1 (pure_move rfl) rfl ?_
    refine TL.run1 (pure_move rfl) rfl ?_
    refine TL.run1 (pure_indexAddr Ty.sl31 rfl rfl (by omega) (by assumption) (List.cons_ne_nil _ _)) rfl ?_
    first | refine TL.run1 (pure_fieldAddr Ty.f59_0 rfl (.zero _) (List.cons_ne_nil _ _)) rfl ?_ | refine TL.run1 (pure_fieldAddr_own Ty.f59_0 rfl) rfl ?_
    first | refine TL.run1 (pure_load1 Ty.one3 rfl) rfl ?_ | refine TL.run1 (pure_load1_own Ty.one3 rfl (by repeat (first | exact List.Mem.head _ | apply List.Mem.tail)) (by repeat (first | exact DropR.zero _ | apply DropR.succ))) rfl ?_
    refine TL.run1 (pure_move rfl) rfl ?_
    refine TL.run1 (pure_eql rfl rfl) rfl ?_
    refine TL.nil' ?_
    first | refine TC.condD rfl (fun hc19 => ?_) (fun hc19 => ?_) | refine TC.condN rfl (fun hc19 => ?_) (fun hc19 => ?_) | refine TC.cond rfl (fun hc19 => ?_) (fun hc19 => ?_)
    · try dsimp only at hc19
      have hlk := look_at l key i h0 (by omega) hc19 h2
      refine TC.seq ?_
      refine TC.region ?_
      refine TL.run1 (pure_move rfl) rfl ?_
      refine TL.run1 (pure_move rfl) rfl ?_
      refine TL.run1 (pure_indexAddr Ty.sl31 rfl rfl (by omega) (by assumption) (List.cons_ne_nil _ _)) rfl ?_
      first | refine TL.run1 (pure_fieldAddr Ty.f59_1 rfl (.succ (.zero _)) (List.cons_ne_nil _ _)) rfl ?_ | refine TL.run1 (pure_fieldAddr_own Ty.f59_1 rfl) rfl ?_
      first | refine TL.run1 (pure_load1 Ty.one3 rfl) rfl ?_ | refine TL.run1 (pure_load1_own Ty.one3 rfl (by repeat (first | exact List.Mem.head _ | apply List.Mem.tail)) (by repeat (first | exact DropR.zero _ | apply DropR.succ))) rfl ?_
      refine TL.run1 (pure_assign rfl) rfl ?_
      refine TL.run1 (pure_assign rfl) rfl ?_
      refine TL.nil' ?_
      refine TC.ret ?_
      refine block_ret ?_
      refine then_ret ?_
      refine loop_ret ?_
      refine block_ret ?_
      refine then_ret ?_
      exact ret2 (.inl rfl) rfl rfl (by rw [hlk]; rfl)
    · try dsimp only at hc19
      refine TC.skip ?_
      refine block_normal ?_
      refine then_normal ?_
      refine TC.region ?_
      refine TL.run1 (pure_move rfl) rfl ?_
      refine TL.run1 (pure_add rfl rfl (mkI64 (by omega) (by omega))) rfl ?_
      refine TL.run1 (pure_assign rfl) rfl ?_
      refine TL.nil ?_
      refine loop_next (i + 1) ⟨by repeat (first | exact Agree.nil | refine Agree.cons rfl ?_), by repeat (first | exact List.nil_sublist _ | exact List.Sublist.refl _ | apply List.Sublist.cons_cons | apply List.Sublist.cons)⟩ ⟨by omega, by omega, fun j a b => ?_⟩ (by omega)
      rcases Int.lt_or_eq_of_le (show j ≤ i by omega) with h | h
      · exact h2 j a h
      · rw [h]; exact hc19
  · try dsimp only at hc10
    refine TC.exit ?_
    refine then_exit ?_
    refine loop_exit ?_
    refine block_here ?_
    refine then_normal ?_
    refine TC.seq ?_
    have hlk := look_none l key fun j a b => h2 j a (by omega)
    refine TC.region ?_
    refine TL.run1 (pure_assign rfl) rfl ?_
    refine TL.run1 (pure_assign rfl) rfl ?_
    refine TL.nil' ?_
    refine TC.ret ?_
    exact ret2 (.inl rfl) rfl rfl (by rw [hlk]; rfl)
set_option maxRecDepth 100000 in
theorem Group_spec (key : Int) : Fun Try.prog 31 [.v (.int .i64 key)] (.tup [.v (.int .i64 (findK key).group), .v (.int .i64 (if inI (keysK tableK) key = true then 0 else 4))]) := by
  refine Fun.enter (n := 15) (rs := [.tmp 2, .tmp 3]) Try.func31 rfl Try.ntmps31 Try.results31 rfl (fun w F => ?_)
  refine TC.seq ?_
  refine TC.region ?_
  refine TL.run1 (pure_assign rfl) rfl ?_
  refine TL.run1 (pure_assign rfl) rfl ?_
  refine TL.nil' ?_
  refine TC.seq ?_
  refine TC.region ?_
  refine TL.run1 (pure_move rfl) rfl ?_
  refine TL.run1 (pure_call (findK_spec _) (.cons rfl .nil) Try.call45) rfl ?_
  refine TL.run1 (pure_move rfl) rfl ?_
  refine TL.run1 (pure_extract rfl rfl) rfl ?_
  refine TL.run1 (pure_extract rfl rfl) rfl ?_
  refine TL.alloc Ty.zero72 rfl (fun g4 => ?_)
  refine TL.store rfl rfl (.agg _) Try.sizeOf72 rfl (by repeat (first | exact UpdR.here _ | apply UpdR.there)) (by repeat (first | exact PutR.nil _ | apply PutR.here | apply PutR.skip)) ?_
  refine TL.run1 (pure_assign rfl) rfl ?_
  refine TL.nil' ?_
  refine TC.seq ?_
  refine TC.seq ?_
  refine TC.region ?_
  refine TL.run1 (pure_move rfl) rfl ?_
  refine TL.run1 (pure_not rfl) rfl ?_
  refine TL.nil' ?_
  first | refine TC.condD rfl (fun hc12 => ?_) (fun hc12 => ?_) | refine TC.condN rfl (fun hc12 => ?_) (fun hc12 => ?_) | refine TC.cond rfl (fun hc12 => ?_) (fun hc12 => ?_)
  · try dsimp only at hc12
    have hin : inI (keysK tableK) key = false := decide_eq_false hc12
    refine TC.seq ?_
    refine TC.region ?_
    refine TL.run1 (pure_assign rfl) rfl ?_
    refine TL.run1 (pure_assign rfl) rfl ?_
    refine TL.nil' ?_
    refine TC.ret ?_
    refine then_ret ?_
    exact ret2 (.inl rfl) rfl rfl (by first | (unfold findK; rw [hin]; rfl) | (rw [hin]; rfl))
  · try dsimp only at hc12
    have hin : inI (keysK tableK) key = true := decide_eq_true hc12
    refine TC.skip' ?_
    refine TC.seq ?_
    refine TC.region ?_
    first | refine TL.run1 (pure_fieldAddr Ty.f72_1 rfl (.succ (.zero _)) (List.cons_ne_nil _ _)) rfl ?_ | refine TL.run1 (pure_fieldAddr_own Ty.f72_1 rfl) rfl ?_
    first | refine TL.run1 (pure_load1 Ty.one3 rfl) rfl ?_ | refine TL.run1 (pure_load1_own Ty.one3 rfl (by repeat (first | exact List.Mem.head _ | apply List.Mem.tail)) (by repeat (first | exact DropR.zero _ | apply DropR.succ))) rfl ?_
    refine TL.run1 (pure_assign rfl) rfl ?_
    refine TL.run1 (pure_assign rfl) rfl ?_
    refine TL.nil' ?_
    refine TC.ret ?_
    exact ret2 (.inl rfl) rfl rfl (by first | (unfold findK; rw [hin]; rfl) | (rw [hin]; rfl))
set_option maxRecDepth 100000 in
theorem Name_spec (key : Int) : Fun Try.prog 34 [.v (.int .i64 key)] (.tup [.v (.string (findK key).name), .v (.int .i64 (if inI (keysK tableK) key = true then 0 else 4))]) := by
  refine Fun.enter (n := 15) (rs := [.tmp 2, .tmp 3]) Try.func34 rfl Try.ntmps34 Try.results34 rfl (fun w F => ?_)
  refine TC.seq ?_
  refine TC.region ?_
  refine TL.run1 (pure_assign rfl) rfl ?_
  refine TL.run1 (pure_assign rfl) rfl ?_
  refine TL.nil' ?_
  refine TC.seq ?_
  refine TC.region ?_
  refine TL.run1 (pure_move rfl) rfl ?_
  refine TL.run1 (pure_call (findK_spec _) (.cons rfl .nil) Try.call45) rfl ?_
  refine TL.run1 (pure_move rfl) rfl ?_
  refine TL.run1 (pure_extract rfl rfl) rfl ?_
  refine TL.run1 (pure_extract rfl rfl) rfl ?_
  refine TL.alloc Ty.zero72 rfl (fun g4 => ?_)
  refine TL.store rfl rfl (.agg _) Try.sizeOf72 rfl (by repeat (first | exact UpdR.here _ | apply UpdR.there)) (by repeat (first | exact PutR.nil _ | apply PutR.here | apply PutR.skip)) ?_
  refine TL.run1 (pure_assign rfl) rfl ?_
  refine TL.nil' ?_
  refine TC.seq ?_
  refine TC.seq ?_
  refine TC.region ?_
  refine TL.run1 (pure_move rfl) rfl ?_
  refine TL.run1 (pure_not rfl) rfl ?_
  refine TL.nil' ?_
  first | refine TC.condD rfl (fun hc12 => ?_) (fun hc12 => ?_) | refine TC.condN rfl (fun hc12 => ?_) (fun hc12 => ?_) | refine TC.cond rfl (fun hc12 => ?_) (fun hc12 => ?_)
  · try dsimp only at hc12
    have hin : inI (keysK tableK) key = false := decide_eq_false hc12
    refine TC.seq ?_
    refine TC.region ?_
    refine TL.run1 (pure_assign rfl) rfl ?_
    refine TL.run1 (pure_assign rfl) rfl ?_
    refine TL.nil' ?_
    refine TC.ret ?_
    refine then_ret ?_
    exact ret2 (.inl rfl) rfl rfl (by first | (unfold findK; rw [hin]; rfl) | (rw [hin]; rfl))
  · try dsimp only at hc12
    have hin : inI (keysK tableK) key = true := decide_eq_true hc12
    refine TC.skip' ?_
    refine TC.seq ?_
    refine TC.region ?_
    first | refine TL.run1 (pure_fieldAddr Ty.f72_5 rfl (.succ (.succ (.succ (.succ (.succ (.zero _)))))) (List.cons_ne_nil _ _)) rfl ?_ | refine TL.run1 (pure_fieldAddr_own Ty.f72_5 rfl) rfl ?_
    first | refine TL.run1 (pure_load1 Ty.one9 rfl) rfl ?_ | refine TL.run1 (pure_load1_own Ty.one9 rfl (by repeat (first | exact List.Mem.head _ | apply List.Mem.tail)) (by repeat (first | exact DropR.zero _ | apply DropR.succ))) rfl ?_
    refine TL.run1 (pure_assign rfl) rfl ?_
    refine TL.run1 (pure_assign rfl) rfl ?_
    refine TL.nil' ?_
    refine TC.ret ?_
    exact ret2 (.inl rfl) rfl rfl (by first | (unfold findK; rw [hin]; rfl) | (rw [hin]; rfl))
set_option maxRecDepth 100000 in
theorem Bounds_spec (key : Int) : Fun Try.prog 32 [.v (.int .i64 key)] (.tup [.v (.int .i64 (findK key).low), .v (.int .i64 (findK key).high), .v (.int .i64 (if inI (keysK tableK) key = true then 0 else 4))]) := by
  refine Fun.enter (n := 18) (rs := [.tmp 2, .tmp 3, .tmp 4]) Try.func32 rfl Try.ntmps32 Try.results32 rfl (fun w F => ?_)
  refine TC.seq ?_
  refine TC.region ?_
  refine TL.run1 (pure_assign rfl) rfl ?_
  refine TL.run1 (pure_assign rfl) rfl ?_
  refine TL.run1 (pure_assign rfl) rfl ?_
  refine TL.nil' ?_
  refine TC.seq ?_
  refine TC.region ?_
  refine TL.run1 (pure_move rfl) rfl ?_
  refine TL.run1 (pure_call (findK_spec _) (.cons rfl .nil) Try.call45) rfl ?_
  refine TL.run1 (pure_move rfl) rfl ?_
  refine TL.run1 (pure_extract rfl rfl) rfl ?_
  refine TL.run1 (pure_extract rfl rfl) rfl ?_
  refine TL.alloc Ty.zero72 rfl (fun g5 => ?_)
  refine TL.store rfl rfl (.agg _) Try.sizeOf72 rfl (by repeat (first | exact UpdR.here _ | apply UpdR.there)) (by repeat (first | exact PutR.nil _ | apply PutR.here | apply PutR.skip)) ?_
  refine TL.run1 (pure_assign rfl) rfl ?_
  refine TL.nil' ?_
  refine TC.seq ?_
  refine TC.seq ?_
  refine TC.region ?_
  refine TL.run1 (pure_move rfl) rfl ?_
  refine TL.run1 (pure_not rfl) rfl ?_
  refine TL.nil' ?_
  first | refine TC.condD rfl (fun hc13 => ?_) (fun hc13 => ?_) | refine TC.condN rfl (fun hc13 => ?_) (fun hc13 => ?_) | refine TC.cond rfl (fun hc13 => ?_) (fun hc13 => ?_)
  · try dsimp only at hc13
    have hin : inI (keysK tableK) key = false := decide_eq_false hc13
    refine TC.seq ?_
    refine TC.region ?_
    refine TL.run1 (pure_assign rfl) rfl ?_
    refine TL.run1 (pure_assign rfl) rfl ?_
    refine TL.run1 (pure_assign rfl) rfl ?_
    refine TL.nil' ?_
    refine TC.ret ?_
    refine then_ret ?_
    exact ret3 (.inl rfl) rfl rfl rfl (by first | (unfold findK; rw [hin]; rfl) | (rw [hin]; rfl))
  · try dsimp only at hc13
    have hin : inI (keysK tableK) key = true := decide_eq_true hc13
    refine TC.skip' ?_
    refine TC.seq ?_
    refine TC.draw Ty.follows (by kernel_rfl) ?_
    first | refine TD.run1 (pure_fieldAddr Ty.f72_2 rfl (.succ (.succ (.zero _))) (List.cons_ne_nil _ _)) rfl ?_ | refine TD.run1 (pure_fieldAddr_own Ty.f72_2 rfl) rfl ?_
    first | refine TD.run1 (pure_load1 Ty.one3 rfl) rfl ?_ | refine TD.run1 (pure_load1_own Ty.one3 rfl (by repeat (first | exact List.Mem.head _ | apply List.Mem.tail)) (by repeat (first | exact DropR.zero _ | apply DropR.succ))) rfl ?_
    first | refine TD.run1 (pure_fieldAddr Ty.f72_3 rfl (.succ (.succ (.succ (.zero _)))) (List.cons_ne_nil _ _)) rfl ?_ | refine TD.run1 (pure_fieldAddr_own Ty.f72_3 rfl) rfl ?_
    first | refine TD.run1 (pure_load1 Ty.one3 rfl) rfl ?_ | refine TD.run1 (pure_load1_own Ty.one3 rfl (by repeat (first | exact List.Mem.head _ | apply List.Mem.tail)) (by repeat (first | exact DropR.zero _ | apply DropR.succ))) rfl ?_
    refine TD.run1 (pure_assign rfl) rfl ?_
    refine TD.run1 (pure_assign rfl) rfl ?_
    refine TD.run1 (pure_assign rfl) rfl ?_
    refine TD.nil' ?_
    refine TC.ret ?_
    exact ret3 (.inl rfl) rfl rfl rfl (by first | (unfold findK; rw [hin]; rfl) | (rw [hin]; rfl))
end Go.Ob
