/- Operations that only read, over data: a lemma each. -/
import Derived.Test.YtlhjcleejolbiaaObC
import Derived.Laws.Entries
import Derived.Laws.Slices
import Derived.Laws.Cells
import Derived.IntWalk
set_option linter.unusedVariables false
set_option linter.unusedSimpArgs false
set_option linter.unusedSectionVars false
namespace Go.Ob
open Go.RowKit

/-! ### Facts on types, closed -/
structure AggT (P : Program) (t n : Nat) : Prop where
  agg : ∀ w, (isAgg t).run P w = .ok true w
  size : ∀ w, (sizeOf t).run P w = .ok n w
structure OneT (P : Program) (t : Nat) : Prop where
  one : ∀ w, (isAgg t).run P w = .ok false w
  size : ∀ w, (sizeOf t).run P w = .ok 1 w
structure SliceT (P : Program) (t e es : Nat) : Prop where
  under : P.underlying t = some (.slice e)
  size : ∀ w, (sizeOf e).run P w = .ok es w
structure FieldT (P : Program) (t f o : Nat) : Prop where
  field : ∃ fs fd n, P.underlying t = some (.struct fs) ∧ fs[f]? = some fd ∧ fd.offset = o ∧ ∀ w, (sizeOf fd.type).run P w = .ok (n + 1) w

def I64 (n : Int) : Prop := -9223372036854775808 ≤ n ∧ n ≤ 9223372036854775807
theorem I64.wrap {n : Int} (h : I64 n) : IntKind.i64.wrap n = n := IntWalk.i64_in n h

/-- A part of a row of cells. -/
inductive DropR : Nat → List D → List D → Prop where
  | zero (cs : List D) : DropR 0 cs cs
  | succ {n : Nat} {c : D} {cs cs' : List D} : DropR n cs cs' → DropR (n + 1) (c :: cs) cs'
inductive TakeR : Nat → List D → List D → Prop where
  | zero (cs : List D) : TakeR 0 cs []
  | succ {n : Nat} {c : D} {cs cs' : List D} : TakeR n cs cs' → TakeR (n + 1) (c :: cs) (c :: cs')
theorem DropR.get {n : Nat} {cs cs' : List D} (h : DropR n cs cs') : ∀ (j : Nat), cs'[j]? = cs[n + j]? := by
  induction h with
  | zero cs => intro j; simp
  | succ _ ih => intro j; rw [ih j, Nat.add_right_comm]; simp
theorem TakeR.get {n : Nat} {cs cs' : List D} (h : TakeR n cs cs') : cs'.length = n ∧ ∀ (j : Nat) (d : D), cs'[j]? = some d → cs[j]? = some d := by
  induction h with
  | zero cs => exact ⟨rfl, fun j d hd => by simp at hd⟩
  | succ h ih =>
    refine ⟨by simp [ih.1], fun j d hd => ?_⟩
    cases j with
    | zero => simpa using hd
    | succ j => simpa using ih.2 j d (by simpa using hd)

section
variable {P : Program} {H : Hp} {env : Env} {dst : Option Tmp} {ty : TypeId} {pos : String} {af : Array Edge} {gd : Option (Nat × Bool)}

theorem pure_of {o : Oper} {d : D} (h : ∀ (w : World) (F : Nat → Prop) (ρ : Operand → Value), HeapOK w (both F H) H → 
    (∀ x ∈ o.op.operands, ∀ dx, opD env x = some dx → Rep w (both F H) dx (ρ x)) → ∃ v, (execOp ρ o).run P w = .ok (.value v) w ∧ Rep w (both F H) d v) (hnd : ∀ c, o.op ≠ .defer c := by intro c h; cases h) : Pure P H o env d := by
  intro w F a hh _ hx r next Q hn
  obtain ⟨v, hr, hv⟩ := h w F a.eval hh hx
  exact wpIn_ok hnd hr (hn v w hv (Kept.refl _ _))

theorem pure_move {x : Operand} {d : D} (h : opD env x = some d) : Pure P H ⟨dst, .move x, ty, pos, af, gd⟩ env d :=
  pure_of fun _ _ ρ _ hx => ⟨ρ x, rfl, hx x (by simp [Op.operands]) d h⟩
theorem pure_assign {x : Operand} {d : D} (h : opD env x = some d) : Pure P H ⟨dst, .assign x, ty, pos, af, gd⟩ env d :=
  pure_of fun _ _ ρ _ hx => ⟨ρ x, rfl, hx x (by simp [Op.operands]) d h⟩

theorem pure_pick_true {c x y : Operand} {d : D} (hc : opD env c = some (.v (.bool true))) (h : opD env x = some d) : Pure P H ⟨dst, .pick c x y, ty, pos, af, gd⟩ env d :=
  pure_of fun w _ ρ _ hx => ⟨ρ x, by simp [execOp, Rep.of_v (hx c (by simp [Op.operands]) _ hc), asBool], hx x (by simp [Op.operands]) d h⟩
theorem pure_pick_false {c x y : Operand} {d : D} (hc : opD env c = some (.v (.bool false))) (h : opD env y = some d) : Pure P H ⟨dst, .pick c x y, ty, pos, af, gd⟩ env d :=
  pure_of fun w _ ρ _ hx => ⟨ρ y, by simp [execOp, Rep.of_v (hx c (by simp [Op.operands]) _ hc), asBool], hx y (by simp [Op.operands]) d h⟩

/-! #### two operands, both known values -/
theorem pure_bin {op : BinOp} {t t2 : TypeId} {x y : Operand} {u v r : Value} (hx : opD env x = some (.v u)) (hy : opD env y = some (.v v))
    (hrun : ∀ w, (do eqGuard op t x y u v; binOp op t u v : Sem Value).run P w = .ok r w) : Pure P H ⟨dst, .binOp op t x y t2, ty, pos, af, gd⟩ env (.v r) :=
  pure_of fun w _ ρ _ h => by
    have e1 := Rep.of_v (h x (by simp [Op.operands]) _ hx)
    have e2 := Rep.of_v (h y (by simp [Op.operands]) _ hy)
    refine ⟨r, ?_, .v r⟩
    have := hrun w
    simp only [execOp, e1, e2]
    rw [Sem.run_bind, this]
    rfl

section ints
variable {t t2 : TypeId} {x y : Operand} {k : IntKind} {a b : Int}
theorem pure_add (hx : opD env x = some (.v (.int .i64 a))) (hy : opD env y = some (.v (.int .i64 b))) (hr : I64 (a + b)) :
    Pure P H ⟨dst, .binOp .add t x y t2, ty, pos, af, gd⟩ env (.v (.int .i64 (a + b))) := pure_bin hx hy fun w => by
  simp [eqGuard, binOp, Op.intArith, hr.wrap]
theorem pure_sub (hx : opD env x = some (.v (.int .i64 a))) (hy : opD env y = some (.v (.int .i64 b))) (hr : I64 (a - b)) :
    Pure P H ⟨dst, .binOp .sub t x y t2, ty, pos, af, gd⟩ env (.v (.int .i64 (a - b))) := pure_bin hx hy fun w => by
  simp [eqGuard, binOp, Op.intArith, hr.wrap]
theorem pure_mul (hx : opD env x = some (.v (.int .i64 a))) (hy : opD env y = some (.v (.int .i64 b))) (hr : I64 (a * b)) :
    Pure P H ⟨dst, .binOp .mul t x y t2, ty, pos, af, gd⟩ env (.v (.int .i64 (a * b))) := pure_bin hx hy fun w => by
  simp [eqGuard, binOp, Op.intArith, hr.wrap]
theorem pure_addw (hx : opD env x = some (.v (.int k a))) (hy : opD env y = some (.v (.int k b))) :
    Pure P H ⟨dst, .binOp .add t x y t2, ty, pos, af, gd⟩ env (.v (.int k (k.wrap (a + b)))) := pure_bin hx hy fun w => by
  simp [eqGuard, binOp, Op.intArith]
theorem pure_subw (hx : opD env x = some (.v (.int k a))) (hy : opD env y = some (.v (.int k b))) :
    Pure P H ⟨dst, .binOp .sub t x y t2, ty, pos, af, gd⟩ env (.v (.int k (k.wrap (a - b)))) := pure_bin hx hy fun w => by
  simp [eqGuard, binOp, Op.intArith]
theorem pure_mulw (hx : opD env x = some (.v (.int k a))) (hy : opD env y = some (.v (.int k b))) :
    Pure P H ⟨dst, .binOp .mul t x y t2, ty, pos, af, gd⟩ env (.v (.int k (k.wrap (a * b)))) := pure_bin hx hy fun w => by
  simp [eqGuard, binOp, Op.intArith]
theorem pure_eql (hx : opD env x = some (.v (.int k a))) (hy : opD env y = some (.v (.int k b))) :
    Pure P H ⟨dst, .binOp .eql t x y t2, ty, pos, af, gd⟩ env (.v (.bool (decide (a = b)))) := pure_bin hx hy fun w => by
  simp [eqGuard, binOp, Op.intCmp]; rfl
theorem pure_neq (hx : opD env x = some (.v (.int k a))) (hy : opD env y = some (.v (.int k b))) :
    Pure P H ⟨dst, .binOp .neq t x y t2, ty, pos, af, gd⟩ env (.v (.bool (decide (a ≠ b)))) := pure_bin hx hy fun w => by
  simp [eqGuard, binOp, Op.intCmp, bne]; rfl
theorem pure_lss (hx : opD env x = some (.v (.int k a))) (hy : opD env y = some (.v (.int k b))) :
    Pure P H ⟨dst, .binOp .lss t x y t2, ty, pos, af, gd⟩ env (.v (.bool (decide (a < b)))) := pure_bin hx hy fun w => by
  simp [eqGuard, binOp, Op.intCmp]
theorem pure_leq (hx : opD env x = some (.v (.int k a))) (hy : opD env y = some (.v (.int k b))) :
    Pure P H ⟨dst, .binOp .leq t x y t2, ty, pos, af, gd⟩ env (.v (.bool (decide (a ≤ b)))) := pure_bin hx hy fun w => by
  simp [eqGuard, binOp, Op.intCmp]
theorem pure_gtr (hx : opD env x = some (.v (.int k a))) (hy : opD env y = some (.v (.int k b))) :
    Pure P H ⟨dst, .binOp .gtr t x y t2, ty, pos, af, gd⟩ env (.v (.bool (decide (b < a)))) := pure_bin hx hy fun w => by
  simp [eqGuard, binOp, Op.intCmp]
theorem pure_geq (hx : opD env x = some (.v (.int k a))) (hy : opD env y = some (.v (.int k b))) :
    Pure P H ⟨dst, .binOp .geq t x y t2, ty, pos, af, gd⟩ env (.v (.bool (decide (b ≤ a)))) := pure_bin hx hy fun w => by
  simp [eqGuard, binOp, Op.intCmp]
end ints

theorem pure_not {t : TypeId} {x : Operand} {b : Bool} (hx : opD env x = some (.v (.bool b))) : Pure P H ⟨dst, .unOp .not t x, ty, pos, af, gd⟩ env (.v (.bool (!b))) :=
  pure_of fun w _ ρ _ h => by
    have e1 := Rep.of_v (h x (by simp [Op.operands]) _ hx)
    exact ⟨_, by simp [execOp, e1, Op.unary], .v _⟩

/-! #### struct values, tuples -/
theorem Rep.tup_get {w : World} {o : Nat → Prop} {ds : List D} {u : Value} (h : Rep w o (.tup ds) u) {i : Nat} {d : D} (hi : ds[i]? = some d) :
    ∃ vs v, u = .tuple vs ∧ vs[i]? = some v ∧ Rep w o d v := by
  cases h with
  | tup _ vs hs hr =>
    have hlt : i < vs.size := by rw [hs]; exact (List.getElem?_eq_some_iff.1 hi).1
    exact ⟨vs, vs[i], rfl, by simp [hlt], hr i d _ hi (by simp [hlt])⟩

theorem pure_extract {x : Operand} {ds : List D} {i : Nat} {d : D} (hx : opD env x = some (.tup ds)) (hi : ds[i]? = some d) :
    Pure P H ⟨dst, .extract x i, ty, pos, af, gd⟩ env d := pure_of fun w _ ρ _ h => by
  obtain ⟨vs, v, e, hv, hr⟩ := (h x (by simp [Op.operands]) _ hx).tup_get hi
  exact ⟨v, by simp [execOp, e, Instr.extract, hv], hr⟩

/-! #### slices that are only read -/
theorem Rep.sl_len {w : World} {o : Nat → Prop} {es : Nat} {xs : List (List D)} {u : Value} (h : Rep w o (.sl es xs) u) : ∃ a c, u = .slice a xs.length c := by
  cases h with
  | nil => exact ⟨none, 0, rfl⟩
  | sl _ _ a c => exact ⟨some a, c, rfl⟩

theorem pure_len {x : Operand} {t e es es' : Nat} {xs : List (List D)} (ht : SliceT P t e es) (hx : opD env x = some (.sl es' xs)) :
    Pure P H ⟨dst, .call { callee := .builtin .len, args := #[x], argTypes := #[t] }, ty, pos, af, gd⟩ env (.v (.int .i64 xs.length)) := pure_of fun w _ ρ _ h => by
  obtain ⟨a, c, e1⟩ := (h x (by simp [Op.operands, Call.operands]) _ hx).sl_len
  exact ⟨_, by simp [execOp, resolve, invoke, builtin, Builtin.len_, run_underlying ht.under, e1, goInt], .v _⟩

theorem pure_len_str {x : Operand} {t : Nat} {s : ByteArray} (ht : P.underlying t = some .string) (hx : opD env x = some (.v (.string s))) :
    Pure P H ⟨dst, .call { callee := .builtin .len, args := #[x], argTypes := #[t] }, ty, pos, af, gd⟩ env (.v (.int .i64 s.size)) := pure_of fun w _ ρ _ h => by
  have e1 := Rep.of_v (h x (by simp [Op.operands, Call.operands]) _ hx)
  exact ⟨_, by simp [execOp, resolve, invoke, builtin, Builtin.len_, run_underlying ht, e1, goInt], .v _⟩

theorem pure_max {x y : Operand} {a b : Int} {ts : Array TypeId} (hx : opD env x = some (.v (.int .i64 a))) (hy : opD env y = some (.v (.int .i64 b))) :
    Pure P H ⟨dst, .call { callee := .builtin .max, args := #[x, y], argTypes := ts }, ty, pos, af, gd⟩ env (.v (.int .i64 (max a b))) := pure_of fun w _ ρ _ h => by
  have e1 := Rep.of_v (h x (by simp [Op.operands, Call.operands]) _ hx)
  have e2 := Rep.of_v (h y (by simp [Op.operands, Call.operands]) _ hy)
  have hm : (if a < b then b else a) = max a b := by omega
  exact ⟨_, by simp [execOp, resolve, invoke, builtin, Builtin.max_, Builtin.max2, e1, e2, hm], .v _⟩
theorem pure_min {x y : Operand} {a b : Int} {ts : Array TypeId} (hx : opD env x = some (.v (.int .i64 a))) (hy : opD env y = some (.v (.int .i64 b))) :
    Pure P H ⟨dst, .call { callee := .builtin .min, args := #[x, y], argTypes := ts }, ty, pos, af, gd⟩ env (.v (.int .i64 (min a b))) := pure_of fun w _ ρ _ h => by
  have e1 := Rep.of_v (h x (by simp [Op.operands, Call.operands]) _ hx)
  have e2 := Rep.of_v (h y (by simp [Op.operands, Call.operands]) _ hy)
  have hm : (if b < a then b else a) = min a b := by omega
  exact ⟨_, by simp [execOp, resolve, invoke, builtin, Builtin.min_, Builtin.min2, e1, e2, hm], .v _⟩

theorem Rep.sl_at {w : World} {o : Nat → Prop} {es : Nat} {xs : List (List D)} {u : Value} (h : Rep w o (.sl es xs) u) {i : Nat} {x : List D} (hi : xs[i]? = some x) (hx : x ≠ []) :
    ∃ a c, u = .slice (some a) xs.length c ∧ Rep w o (.at_ x) (.pointer (some (a.add (i * es)))) := by
  cases h with
  | nil => simp at hi
  | sl _ _ a c val hc he hb hcell hrep =>
    have hne : xs ≠ [] := by rintro rfl; simp at hi
    refine ⟨a, c, rfl, .at_ x _ (val i) hx ?_ (fun j d hd => ?_) (fun j d hd => hrep i j x d hi hd)⟩
    · rw [Addr.block_add]; exact (hb hne).1
    · rw [add_add]; exact hcell i j x d hi hd

theorem pure_indexAddr {x y : Operand} {t e es : Nat} {xs : List (List D)} {k : IntKind} {i : Int} {c : List D} (ht : SliceT P t e es) (hx : opD env x = some (.sl es xs))
    (hy : opD env y = some (.v (.int k i))) (h0 : 0 ≤ i) (hi : xs[i.toNat]? = some c) (hc : c ≠ []) :
    Pure P H ⟨dst, .indexAddr t x y, ty, pos, af, gd⟩ env (.at_ c) := pure_of fun w _ ρ _ h => by
  obtain ⟨a, cap, e1, hr⟩ := (h x (by simp [Op.operands]) _ hx).sl_at hi hc
  have e2 := Rep.of_v (h y (by simp [Op.operands]) _ hy)
  have hlt : i.toNat < xs.length := (List.getElem?_eq_some_iff.1 hi).1
  have hlt' : i < (xs.length : Int) := by omega
  exact ⟨_, by simp [execOp, Instr.indexAt, e1, e2, asIntOf, run_underlying ht.under, h0, hlt', ht.size], hr⟩

/-! #### addresses and loads of what is only read -/
theorem Rep.at_drop {w : World} {o : Nat → Prop} {cs cs' : List D} {u : Value} {n : Nat} (h : Rep w o (.at_ cs) u) (hd : DropR n cs cs') (hne : cs' ≠ []) :
    ∃ a, u = .pointer (some a) ∧ Rep w o (.at_ cs') (.pointer (some (a.add n))) := by
  cases h with
  | at_ _ a val hne' hb hcell hrep =>
    refine ⟨a, rfl, .at_ cs' _ (fun j => val (n + j)) hne (by rw [Addr.block_add]; exact hb) (fun j d hj => ?_) (fun j d hj => ?_)⟩
    · rw [add_add]; exact hcell _ _ (by rw [← hd.get]; exact hj)
    · exact hrep _ _ (by rw [← hd.get]; exact hj)

theorem pure_fieldAddr {x : Operand} {t f o : Nat} {cs cs' : List D} (hf : FieldT P t f o) (hx : opD env x = some (.at_ cs)) (hd : DropR o cs cs') (hne : cs' ≠ []) :
    Pure P H ⟨dst, .fieldAddr t x f, ty, pos, af, gd⟩ env (.at_ cs') := pure_of fun w _ ρ _ h => by
  obtain ⟨fs, fd, n, hu, hfd, ho, hs⟩ := hf.field
  obtain ⟨a, e1, hr⟩ := (h x (by simp [Op.operands]) _ hx).at_drop hd hne
  exact ⟨_, by simp [execOp, Instr.fieldAt, run_underlying hu, hfd, e1, Instr.sureAddr, fieldPlace, hs, ho], hr⟩

/-- The address of a field of a variable of the call's own. -/
theorem pure_fieldAddr_own {x : Operand} {t f o : Nat} {g p : Nat} (hf : FieldT P t f o) (hx : opD env x = some (.v (.pointer (some ⟨g, p, none⟩)))) :
    Pure P H ⟨dst, .fieldAddr t x f, ty, pos, af, gd⟩ env (.v (.pointer (some ⟨g, p + o, none⟩))) := pure_of fun w _ ρ _ h => by
  obtain ⟨fs, fd, n, hu, hfd, ho, hs⟩ := hf.field
  have e1 := Rep.of_v (h x (by simp [Op.operands]) _ hx)
  have e2 : (⟨g, p, none⟩ : Addr).add o = ⟨g, p + o, none⟩ := Addr.add_lit g p o
  exact ⟨_, by simp [execOp, Instr.fieldAt, run_underlying hu, hfd, e1, Instr.sureAddr, fieldPlace, hs, ho, e2], .v _⟩

theorem run_loadCells_vals {P : Program} {w : World} {a : Addr} {n : Nat} {val : Nat → Value} (h : ∀ j, j < n → w.cell? (a.add j) = some (val j)) :
    (loadCells a n).run P w = .ok ((List.range n).map val).toArray w := run_loadCells (P := P) w a n val h

theorem Rep.at_load {w : World} {o : Nat → Prop} {cs ds : List D} {u : Value} {n : Nat} (h : Rep w o (.at_ cs) u) (hd : TakeR n cs ds) {t : Nat} (ht : AggT P t n) :
    ∃ vs, (Instr.loadAt t u).run P w = .ok (.agg vs) w ∧ Rep w o (.agg ds) (.agg vs) := by
  cases h with
  | at_ _ a val hne hb hcell hrep =>
    have hds : ∀ j, j < n → ∃ d, ds[j]? = some d ∧ cs[j]? = some d := fun j hj => by
      have hl := hd.get.1
      exact ⟨ds[j]'(by omega), List.getElem?_eq_getElem (by omega), hd.get.2 _ _ (List.getElem?_eq_getElem (by omega))⟩
    have hc : ∀ j, j < n → w.cell? (a.add j) = some (val j) := fun j hj => let ⟨d, _, hc⟩ := hds j hj; (hcell j d hc).1
    refine ⟨((List.range n).map val).toArray, by simp [Instr.loadAt, Instr.sureAddr, loadVar, ht.agg, ht.size, run_loadCells_vals hc], .agg ds _ (by simp [hd.get.1]) (fun j u hu => ?_) (fun j d u hj hu => ?_)⟩
    · have hjn : j < n := by
        rcases Nat.lt_or_ge j n with h | h
        · exact h
        · simp [h] at hu
      obtain ⟨d, _, hcd⟩ := hds j hjn
      have : u = val j := by simpa [hjn] using hu.symm
      subst this
      exact (hcell j d hcd).2
    have hjn : j < n := by rw [← hd.get.1]; exact (List.getElem?_eq_some_iff.1 hj).1
    have : u = val j := by simpa [hjn] using hu.symm
    subst this
    exact hrep j d (hd.get.2 j d hj)

theorem pure_load {x : Operand} {t n : Nat} {cs ds : List D} (ht : AggT P t n) (hx : opD env x = some (.at_ cs)) (hd : TakeR n cs ds) :
    Pure P H ⟨dst, .load t x, ty, pos, af, gd⟩ env (.agg ds) := pure_of fun w _ ρ _ h => by
  obtain ⟨vs, hr, hv⟩ := (h x (by simp [Op.operands]) _ hx).at_load hd ht
  exact ⟨.agg vs, by simp [execOp, hr], hv⟩

theorem pure_load1 {x : Operand} {t : Nat} {c : D} {cs : List D} (ht : OneT P t) (hx : opD env x = some (.at_ (c :: cs))) :
    Pure P H ⟨dst, .load t x, ty, pos, af, gd⟩ env c := pure_of fun w _ ρ _ h => by
  have hr := h x (by simp [Op.operands]) _ hx
  cases hu : ρ x with
  | pointer p =>
    rw [hu] at hr
    cases hr with
    | at_ _ a val hne hb hcell hrep =>
      have hc := (hcell 0 c rfl).1
      rw [Addr.add_zero'] at hc
      exact ⟨val 0, by simp [execOp, hu, Instr.loadAt, Instr.sureAddr, loadVar, ht.one, hc], hrep 0 c rfl⟩
  | _ => rw [hu] at hr; cases hr

/-! #### a variable of the call's own is read -/
theorem ok_box {w : World} {F : Nat → Prop} {H : Hp} (hh : HeapOK w (both F H) H) {g t : Nat} {cs : List D} (hm : Blk.box g t cs ∈ H) :
    ∃ vs : Array Value, w.heap[g]? = some (.cells vs t (0, 0)) ∧ vs.size = cs.length ∧ ∀ (j : Nat) (d : D) (u : Value), cs[j]? = some d → vs[j]? = some u → u.oneCell' = true ∧ Rep w (both F H) d u :=
  hh.each _ hm

theorem own_add (g o n : Nat) : (⟨g, o, none⟩ : Addr).add n = ⟨g, o + n, none⟩ := Addr.add_lit g o n

theorem pure_load_own {x : Operand} {t t' n g o : Nat} {cs cs' ds : List D} (ht : AggT P t n) (hx : opD env x = some (.v (.pointer (some ⟨g, o, none⟩)))) (hm : Blk.box g t' cs ∈ H)
    (h1 : DropR o cs cs') (h2 : TakeR n cs' ds) : Pure P H ⟨dst, .load t x, ty, pos, af, gd⟩ env (.agg ds) := pure_of fun w F ρ hh h => by
  have e1 := Rep.of_v (h x (by simp [Op.operands]) _ hx)
  obtain ⟨vs, hg, hs, hj⟩ := ok_box hh hm
  have hget : ∀ j d, ds[j]? = some d → cs[o + j]? = some d := fun j d hd => by rw [← h1.get]; exact h2.get.2 j d hd
  have hv : ∀ j, j < n → ∃ d u, ds[j]? = some d ∧ vs[o + j]? = some u ∧ Rep w (both F H) d u := fun j hjn => by
    have hl := h2.get.1
    have hd : ds[j]? = some (ds[j]'(by omega)) := List.getElem?_eq_getElem (by omega)
    have hc := hget _ _ hd
    have hlt : o + j < vs.size := by rw [hs]; exact (List.getElem?_eq_some_iff.1 hc).1
    exact ⟨_, vs[o + j], hd, by simp [hlt], (hj _ _ _ hc (by simp [hlt])).2⟩
  have hc : ∀ j, j < n → w.cell? ((⟨g, o, none⟩ : Addr).add j) = some (vs.getD (o + j) undef) := fun j hjn => by
    obtain ⟨d, u, _, hu, _⟩ := hv j hjn
    rw [own_add, cell_of_row w g (o + j) vs t' (0, 0) hg]
    simp [hu]
  refine ⟨.agg ((List.range n).map fun j => vs.getD (o + j) undef).toArray,
    by simp [execOp, e1, Instr.loadAt, Instr.sureAddr, loadVar, ht.agg, ht.size, run_loadCells_vals hc], .agg ds _ (by simp [h2.get.1]) (fun j u hu => ?_) (fun j d u hd hu => ?_)⟩
  · have hjn : j < n := by
      rcases Nat.lt_or_ge j n with h | h
      · exact h
      · simp [h] at hu
    obtain ⟨d', u', hd', hu', _⟩ := hv j hjn
    have : u = u' := by simpa [hjn, hu'] using hu.symm
    subst this
    exact (hj _ _ _ (hget _ _ hd') hu').1
  have hjn : j < n := by rw [← h2.get.1]; exact (List.getElem?_eq_some_iff.1 hd).1
  obtain ⟨d', u', hd', hu', hr⟩ := hv j hjn
  have : u = u' := by simpa [hjn, hu'] using hu.symm
  subst this
  rw [hd] at hd'
  cases hd'
  exact hr

theorem pure_load1_own {x : Operand} {t t' g o : Nat} {cs cs' : List D} {c : D} (ht : OneT P t) (hx : opD env x = some (.v (.pointer (some ⟨g, o, none⟩)))) (hm : Blk.box g t' cs ∈ H)
    (h1 : DropR o cs (c :: cs')) : Pure P H ⟨dst, .load t x, ty, pos, af, gd⟩ env c := pure_of fun w F ρ hh h => by
  have e1 := Rep.of_v (h x (by simp [Op.operands]) _ hx)
  obtain ⟨vs, hg, hs, hj⟩ := ok_box hh hm
  have hc : cs[o]? = some c := by rw [← Nat.add_zero o, ← h1.get]; rfl
  have hlt : o < vs.size := by rw [hs]; exact (List.getElem?_eq_some_iff.1 hc).1
  have hcell : w.cell? ⟨g, o, none⟩ = some vs[o] := by rw [cell_of_row w g o vs t' (0, 0) hg]; simp [hlt]
  exact ⟨vs[o], by simp [execOp, e1, Instr.loadAt, Instr.sureAddr, loadVar, ht.one, hcell], (hj _ _ _ hc (by simp [hlt])).2⟩

/-! #### calls -/
inductive ArgsD (env : Env) : List Operand → List D → Prop where
  | nil : ArgsD env [] []
  | cons {x : Operand} {d : D} {xs : List Operand} {ds : List D} : opD env x = some d → ArgsD env xs ds → ArgsD env (x :: xs) (d :: ds)

theorem ArgsD.rep {xs : List Operand} {ds : List D} (h : ArgsD env xs ds) {w : World} {o : Nat → Prop} {ρ : Operand → Value} (hx : ∀ x ∈ xs, ∀ dx, opD env x = some dx → Rep w o dx (ρ x)) :
    (xs.map ρ).length = ds.length ∧ ∀ (j : Nat) (d : D) (u : Value), ds[j]? = some d → (xs.map ρ)[j]? = some u → Rep w o d u := by
  induction h with
  | nil => exact ⟨rfl, fun j d u hd => by simp at hd⟩
  | @cons x d xs ds h1 h2 ih =>
    obtain ⟨hl, hr⟩ := ih fun y hy => hx y (List.mem_cons_of_mem _ hy)
    refine ⟨by simp [hl], fun j d' u hd hu => ?_⟩
    cases j with
    | zero =>
      simp only [List.getElem?_cons_zero, Option.some.injEq] at hd
      simp only [List.map_cons, List.getElem?_cons_zero, Option.some.injEq] at hu
      subst hd; subst hu
      exact hx x (by simp) d h1
    | succ j =>
      simp only [List.getElem?_cons_succ] at hd
      simp only [List.map_cons, List.getElem?_cons_succ] at hu
      exact hr j d' u hd hu

theorem HeapOK.nil (w : World) (o : Nat → Prop) : HeapOK w o [] := ⟨fun b hb => absurd hb (by simp), List.Pairwise.nil⟩

theorem both_nil_of {F : Nat → Prop} {H : Hp} {g : Nat} (h : both (both F H) [] g) : both F H g := h.elim id (fun h => absurd h (own_nil g))

/-- The contract of a function that only reads, used where H is owned. -/
theorem Fun.use {f : FuncId} {ds : List D} {r : D} (hf : Fun P f ds r) {w : World} {F : Nat → Prop} {vs : List Value} (hh : HeapOK w (both F H) H)
    (hF : Foreign P F w (own H)) (hl : vs.length = ds.length) (hr : ∀ (j : Nat) (d : D) (u : Value), ds[j]? = some d → vs[j]? = some u → Rep w (both F H) d u) :
    Calls P f vs.toArray w fun e w' => ∃ v, e = .returned v ∧ Rep w' (both F H) r v ∧ Kept no w w' := by
  refine (hf w (both F H) vs hl (fun j d u hd hu => (hr j d u hd hu).fewer fun g => both_nil_of) (HeapOK.nil _ _)
    ⟨fun g hg => ⟨hg.elim (fun h => (hF g h).1) (fun h => own_lt hh h), own_nil g⟩, hF.glob.less fun g hg => absurd hg (own_nil g)⟩).mono ?_
  rintro e w' ⟨v, r', H', he, ⟨rfl, rfl⟩, hrep, _, hk, _⟩
  exact ⟨v, he, hrep.fewer fun g hg => .inl hg, hk.mono fun b _ hb => absurd hb (own_nil b)⟩

theorem pure_call {f : FuncId} {args : Array Operand} {ts : Array TypeId} {ds : List D} {r : D} (hf : Fun P f ds r) (ha : ArgsD env args.toList ds)
    (hc : ∀ (as0 : Array Value) (w : World), (callFunc f as0).run P w = .ok (.enter f as0) w) :
    Pure P H ⟨dst, .call { callee := .value (.func f), args := args, argTypes := ts }, ty, pos, af, gd⟩ env r := by
  intro w F a hh hF hx r next Q hn
  obtain ⟨hl, hr⟩ := ha.rep (w := w) (o := both F H) (ρ := a.eval) fun x hxm => hx x (by simp [Op.operands, Call.operands] ; exact .inr (by simpa using hxm))
  have hcall := hf.use hh hF hl hr
  have hrun : (execOp a.eval ⟨dst, .call { callee := .value (.func f), args := args, argTypes := ts }, ty, pos, af, gd⟩).run P w = .ok (.enter f (args.toList.map a.eval).toArray) w := by
    have e3 : (List.map a.eval args.toList).toArray = Array.map a.eval args := by rw [← List.map_toArray]
    simp [execOp, resolve, Deferred.ofValue, Act.eval, invoke, hc, e3]
    done
  refine wpIn_ok (fun _ h => by cases h) hrun ⟨fen_shallow, calls_fen (hcall.mono ?_)⟩
  rintro e w' ⟨v, rfl, hv, hk⟩
  exact hn v w' hv hk

/-- A call of a function value. -/
theorem pure_callv {fo : Operand} {f : FuncId} {caps : List D} {args : Array Operand} {ts : Array TypeId} {ds : List D} {r : D} (hfo : opD env fo = some (.fn f caps)) (hf : Fun P f (ds ++ caps) r)
    (ha : ArgsD env args.toList ds) (hc : ∀ (as0 : Array Value) (w : World), (callFunc f as0).run P w = .ok (.enter f as0) w) :
    Pure P H ⟨dst, .call { callee := .value fo, args := args, argTypes := ts }, ty, pos, af, gd⟩ env r := by
  intro w F a hh hF hx r next Q hn
  obtain ⟨hl, hr⟩ := ha.rep (w := w) (o := both F H) (ρ := a.eval) fun x hxm => hx x (by simp [Op.operands, Call.operands] ; exact .inr (by simpa using hxm))
  have hfr := hx fo (by simp [Op.operands, Call.operands]) _ hfo
  cases hu : a.eval fo with
  | func fn first cap =>
    rw [hu] at hfr
    cases hfr with
    | fn _ _ _ hs hcap =>
      have hcall := hf.use (vs := args.toList.map a.eval ++ cap.toList) hh hF (by simp only [List.length_append, hl, Array.length_toList, hs]) (fun j d u hd hu' => by
        by_cases hj : j < ds.length
        · rw [List.getElem?_append_left hj] at hd
          rw [List.getElem?_append_left (by omega)] at hu'
          exact hr j d u hd hu'
        · rw [List.getElem?_append_right (by omega)] at hd
          rw [List.getElem?_append_right (by omega), hl] at hu'
          exact hcap _ d u hd (by simpa using hu'))
      have hrun : (execOp a.eval ⟨dst, .call { callee := .value fo, args := args, argTypes := ts }, ty, pos, af, gd⟩).run P w = .ok (.enter f (args.toList.map a.eval ++ cap.toList).toArray) w := by
        have e3 : (args.toList.map a.eval ++ cap.toList).toArray = Array.map a.eval args ++ cap := by simp
        simp [execOp, resolve, Deferred.ofValue, hu, invoke, hc, e3]
      refine wpIn_ok (fun _ h => by cases h) hrun ⟨fen_shallow, calls_fen (hcall.mono ?_)⟩
      rintro e w' ⟨v, rfl, hv, hk⟩
      exact hn v w' hv hk
  | _ => rw [hu] at hfr; cases hfr

end
end Go.Ob
