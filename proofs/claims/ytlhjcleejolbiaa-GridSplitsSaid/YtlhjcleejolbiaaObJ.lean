/- Comparisons of structs, bools, strings; slices built; strings read; elements of a row of the call's own. -/
import Derived.Test.YtlhjcleejolbiaaObI
set_option linter.unusedVariables false
set_option linter.unusedSimpArgs false
set_option linter.unusedSectionVars false
namespace Go.Ob
open Go.RowKit

/-- The bodies of a literal slice. -/
inductive PartsD (env : Env) (es : Nat) : List Operand → List (List D) → Prop where
  | nil : PartsD env es [] []
  | cons {x : Operand} {d : D} {ds : List D} {xs : List Operand} {ys : List (List D)} : opD env x = some d → CellsD d ds → Nat.beq ds.length es = true → PartsD env es xs ys → PartsD env es (x :: xs) (ds :: ys)

/-- [(0, x0), (1, x1), ..] -/
def numbered (k : Nat) : List Operand → List (Nat × Operand)
  | [] => []
  | x :: xs => (k, x) :: numbered (k + 1) xs

inductive IntsD : List D → List Int → Prop where
  | nil : IntsD [] []
  | cons {a : Int} {ds : List D} {as0 : List Int} : IntsD ds as0 → IntsD (.v (.int .i64 a) :: ds) (a :: as0)
theorem IntsD.eq {ds : List D} {as0 : List Int} (h : IntsD ds as0) : ds = as0.map fun a => .v (.int .i64 a) := by induction h <;> simp [*]

/-- A struct of ints: == compares its fields. -/
structure EqT (P : Program) (t n : Nat) : Prop where
  guard : P.eqGuardType P.depth t = false
  eq : ∀ w (as0 bs : List Int), as0.length = n → bs.length = n →
    (Op.equalIn 10000 t (.agg (as0.map (.int .i64)).toArray) (.agg (bs.map (.int .i64)).toArray)).run P w = .ok (decide (as0 = bs)) w

theorem agg_ints {w : World} {o : Nat → Prop} {as0 : List Int} {u : Value} (h : Rep w o (.agg (as0.map fun a => .v (.int .i64 a))) u) : u = .agg (as0.map (.int .i64)).toArray := by
  cases h with
  | agg _ vs hs h1 hj =>
    congr 1
    apply Array.ext
    · simpa using hs
    · intro i h1 h2
      have := hj i _ _ (by rw [List.getElem?_map, List.getElem?_eq_getElem (by simpa using h2)]; rfl) (Array.getElem?_eq_getElem h1)
      simpa using Rep.of_v this

theorem bytes_beq (a b : ByteArray) : (a.toList == b.toList) = decide (a = b) := by
  rw [Bool.eq_iff_iff, beq_iff_eq, decide_eq_true_eq, ByteArray.toList_eq, ByteArray.toList_eq]
  constructor
  · intro h
    obtain ⟨⟨x⟩⟩ := a
    obtain ⟨⟨y⟩⟩ := b
    simp only at h
    subst h
    rfl
  · intro h; rw [h]

section
variable {P : Program} {H : Hp} {env : Env} {dst : Option Tmp} {ty : TypeId} {pos : String} {af : Array Edge} {gd : Option (Nat × Bool)} {t t2 : TypeId} {x y : Operand}

theorem pure_eql_agg {n : Nat} {ds es : List D} {as0 bs : List Int} (ht : EqT P t n) (hx : opD env x = some (.agg ds)) (hy : opD env y = some (.agg es)) (h1 : IntsD ds as0) (h2 : IntsD es bs) (l1 : Nat.beq as0.length n = true) (l2 : Nat.beq bs.length n = true) :
    Pure P H ⟨dst, .binOp .eql t x y t2, ty, pos, af, gd⟩ env (.v (.bool (decide (as0 = bs)))) := pure_of fun w _ ρ _ h => by
  rw [h1.eq] at hx
  rw [h2.eq] at hy
  have e1 := agg_ints (h x (by simp [Op.operands]) _ hx)
  have e2 := agg_ints (h y (by simp [Op.operands]) _ hy)
  have hg := run_eqGuard_agg (P := P) w .eql t x y (as0.map (.int .i64)).toArray (bs.map (.int .i64)).toArray ht.guard
  have he := run_eql_struct (P := P) w t (as0.map (.int .i64)).toArray (bs.map (.int .i64)).toArray
  rw [ht.eq w as0 bs (Nat.eq_of_beq_eq_true l1) (Nat.eq_of_beq_eq_true l2)] at he
  refine ⟨_, ?_, .v _⟩
  simp only [execOp, e1, e2, Sem.run_bind, hg, Result.andThen_ok, he]
  rfl

theorem pure_neq_agg {n : Nat} {ds es : List D} {as0 bs : List Int} (ht : EqT P t n) (hx : opD env x = some (.agg ds)) (hy : opD env y = some (.agg es)) (h1 : IntsD ds as0) (h2 : IntsD es bs) (l1 : Nat.beq as0.length n = true) (l2 : Nat.beq bs.length n = true) :
    Pure P H ⟨dst, .binOp .neq t x y t2, ty, pos, af, gd⟩ env (.v (.bool (decide (as0 ≠ bs)))) := pure_of fun w _ ρ _ h => by
  rw [h1.eq] at hx
  rw [h2.eq] at hy
  have e1 := agg_ints (h x (by simp [Op.operands]) _ hx)
  have e2 := agg_ints (h y (by simp [Op.operands]) _ hy)
  have hg := run_eqGuard_agg (P := P) w .neq t x y (as0.map (.int .i64)).toArray (bs.map (.int .i64)).toArray ht.guard
  have he := run_neq_struct (P := P) w t (as0.map (.int .i64)).toArray (bs.map (.int .i64)).toArray
  rw [ht.eq w as0 bs (Nat.eq_of_beq_eq_true l1) (Nat.eq_of_beq_eq_true l2)] at he
  refine ⟨_, ?_, .v _⟩
  simp only [execOp, e1, e2, Sem.run_bind, hg, Result.andThen_ok, he]
  simp

theorem pure_eql_bool {a b : Bool} (hu : P.underlying t = some .bool) (hx : opD env x = some (.v (.bool a))) (hy : opD env y = some (.v (.bool b))) :
    Pure P H ⟨dst, .binOp .eql t x y t2, ty, pos, af, gd⟩ env (.v (.bool (decide (a = b)))) := pure_bin hx hy fun w => by
  have he : ∀ d : Nat, (Op.equalIn (d + 1) t (.bool a) (.bool b)).run P w = .ok (a == b) w := fun d => run_equalIn_bool' w d t a b hu
  simp [eqGuard, binOp, Op.equal, Op.maxDepth, he 9999]
  cases a <;> cases b <;> rfl
theorem pure_neq_bool {a b : Bool} (hu : P.underlying t = some .bool) (hx : opD env x = some (.v (.bool a))) (hy : opD env y = some (.v (.bool b))) :
    Pure P H ⟨dst, .binOp .neq t x y t2, ty, pos, af, gd⟩ env (.v (.bool (decide (a ≠ b)))) := pure_bin hx hy fun w => by
  have he : ∀ d : Nat, (Op.equalIn (d + 1) t (.bool a) (.bool b)).run P w = .ok (a == b) w := fun d => run_equalIn_bool' w d t a b hu
  simp [eqGuard, binOp, Op.equal, Op.maxDepth, he 9999]
  cases a <;> cases b <;> rfl

theorem pure_eql_string {a b : ByteArray} (hx : opD env x = some (.v (.string a))) (hy : opD env y = some (.v (.string b))) :
    Pure P H ⟨dst, .binOp .eql t x y t2, ty, pos, af, gd⟩ env (.v (.bool (decide (a = b)))) := pure_bin hx hy fun w => by
  simp [eqGuard, binOp, Op.stringOp, bytes_beq]
theorem pure_neq_string {a b : ByteArray} (hx : opD env x = some (.v (.string a))) (hy : opD env y = some (.v (.string b))) :
    Pure P H ⟨dst, .binOp .neq t x y t2, ty, pos, af, gd⟩ env (.v (.bool (decide (a ≠ b)))) := pure_bin hx hy fun w => by
  simp [eqGuard, binOp, Op.stringOp, bytes_beq, bne]

theorem pure_neg {a : Int} (hx : opD env x = some (.v (.int .i64 a))) (hr : I64 (-a)) : Pure P H ⟨dst, .unOp .neg t x, ty, pos, af, gd⟩ env (.v (.int .i64 (-a))) :=
  pure_of fun w _ ρ _ h => by
    have e1 := Rep.of_v (h x (by simp [Op.operands]) _ hx)
    exact ⟨_, by simp [execOp, e1, Op.unary, Op.intArith, hr.wrap], .v _⟩

/-! ### strings -/
theorem pure_index_str {s : ByteArray} {k : IntKind} {i : Int} {b : UInt8} (hu : P.underlying t = some .string) (hx : opD env x = some (.v (.string s))) (hy : opD env y = some (.v (.int k i))) (h0 : 0 ≤ i) (hb : s.data[i.toNat]? = some b) :
    Pure P H ⟨dst, .index t x y, ty, pos, af, gd⟩ env (.v (.int .u8 b.toNat)) := pure_of fun w _ ρ _ h => by
  have e1 := Rep.of_v (h x (by simp [Op.operands]) _ hx)
  have e2 := Rep.of_v (h y (by simp [Op.operands]) _ hy)
  have hlt : i.toNat < s.size := by
    have := (Array.getElem?_eq_some_iff.1 hb).1
    exact this
  have hb' : s[i.toNat]? = some b := by
    rw [getElem?_pos s i.toNat hlt]
    have := Array.getElem?_eq_some_iff.1 hb
    obtain ⟨h1, h2⟩ := this
    exact congrArg some h2
  exact ⟨_, by simp [execOp, Instr.index, e1, e2, asIntOf, run_underlying hu, h0, hb'], .v _⟩

theorem pure_slice_str {s : ByteArray} {lo hi : Option Operand} {l h : Nat} (hu : P.underlying t = some .string) (hx : opD env x = some (.v (.string s)))
    (hlo : match lo with | none => l = 0 | some y => opD env y = some (.v (.int .i64 (l : Int)))) (hhi : match hi with | none => h = s.size | some y => opD env y = some (.v (.int .i64 (h : Int))))
    (h1 : l ≤ h) (h2 : h ≤ s.size) : Pure P H ⟨dst, .slice t x lo hi none, ty, pos, af, gd⟩ env (.v (.string (s.extract l h))) := pure_of fun w F ρ hh hr => by
  have e1 := Rep.of_v (hr x (by simp [Op.operands]) _ hx)
  refine ⟨_, ?_, .v _⟩
  have el : ∀ y, lo = some y → ρ y = .int .i64 (l : Int) := fun y hy => by subst hy; exact Rep.of_v (hr y (by simp [Op.operands]) _ hlo)
  have eh : ∀ y, hi = some y → ρ y = .int .i64 (h : Int) := fun y hy => by subst hy; exact Rep.of_v (hr y (by simp [Op.operands]) _ hhi)
  have q1 : l ≤ s.size := by omega
  cases lo with
  | none =>
    have hl0 : l = 0 := hlo
    subst hl0
    cases hi with
    | none =>
      have hh0 : h = s.size := hhi
      subst hh0
      simp [execOp, Instr.sliceAt, run_underlying hu, e1, Instr.slice, Instr.sliceBounds]
    | some yh => simp [execOp, Instr.sliceAt, run_underlying hu, e1, Instr.slice, Instr.sliceBounds, eh yh rfl, Instr.sliceBound, asIntOf, h2]
  | some yl =>
    cases hi with
    | none =>
      have hh0 : h = s.size := hhi
      subst hh0
      simp [execOp, Instr.sliceAt, run_underlying hu, e1, Instr.slice, Instr.sliceBounds, el yl rfl, Instr.sliceBound, asIntOf, q1]
    | some yh => simp [execOp, Instr.sliceAt, run_underlying hu, e1, Instr.slice, Instr.sliceBounds, el yl rfl, eh yh rfl, Instr.sliceBound, asIntOf, h1, h2]

/-! ### function values -/
theorem pure_makeFunc {f : FuncId} {caps : Array Operand} {ds : List D} (ha : ArgsD env caps.toList ds) : Pure P H ⟨dst, .makeFunc (.func f) #[] caps, ty, pos, af, gd⟩ env (.fn f ds) := pure_of fun w F ρ hh hx => by
  obtain ⟨hl, hr⟩ := ha.rep (w := w) (o := both F H) (ρ := ρ) fun x hxm => hx x (by simp [Op.operands]; simpa using hxm)
  refine ⟨.func (.func f) #[] (caps.map ρ), by simp [execOp, Instr.makeFunc], .fn f ds _ (by simpa using hl) fun j d u hd hu => hr j d u hd ?_⟩
  rw [← hu]
  simp

/-! ### slices built -/
theorem run_fill_parts {w : World} {o : Nat → Prop} {ρ : Operand → Value} {es : Nat} {xs : List Operand} {ys : List (List D)} (h : PartsD env es xs ys) (hx : ∀ x ∈ xs, ∀ dx, opD env x = some dx → Rep w o dx (ρ x)) :
    ∀ (k : Nat) (done : List Value) (zs : Array Value), done.length = k * es → zs.size = (k + xs.length) * es → zs.toList.take (k * es) = done →
      ∃ news : List Value, Instr.fill (fun i => some (i * es, es)) zs ((numbered k xs).map fun (i, x) => (i, ρ x)) = some (done ++ news).toArray ∧ news.length = xs.length * es ∧
        ∀ (j : Nat) (d : D) (u : Value), ys.flatten[j]? = some d → news[j]? = some u → u.oneCell' = true ∧ Rep w o d u := by
  induction h with
  | nil =>
    intro k done zs hd hz ht
    refine ⟨[], ?_, by simp, fun j d u hd => by simp at hd⟩
    simp only [numbered, List.map_nil, Instr.fill, List.append_nil, Option.some.injEq]
    rw [← ht, List.take_of_length_le (by simp at hz ⊢; omega)]
  | @cons x d ds xs ys hxd hc hl hp ih =>
    intro k done zs hd hz ht
    have hl' : ds.length = es := Nat.eq_of_beq_eq_true hl
    obtain ⟨c1, c2⟩ := hc.rep (hx x (by simp) d hxd)
    have hsz : (ρ x).cells.size = es := by rw [c1, hl']
    have hfit : k * es + es ≤ zs.size := by
      rw [hz, List.length_cons, show (k + (xs.length + 1)) * es = k * es + es + xs.length * es by rw [show k + (xs.length + 1) = k + 1 + xs.length by omega, Nat.add_mul, Nat.add_mul, Nat.one_mul]]
      omega
    have hzf := zip_fold zs (k * es) (ρ x).cells.toList 0 zs (by rw [Array.length_toList, hsz]; simpa using hfit)
    rw [← Array.toList_zipIdx, Array.foldl_toList, Nat.add_zero, Array.length_toList, hsz] at hzf
    obtain ⟨news, h1, h2, h3⟩ := ih (fun y hy => hx y (by simp [hy])) (k + 1) (done ++ (ρ x).cells.toList) ((ρ x).cells.zipIdx.foldl (fun cs (c, j) => cs.setIfInBounds (k * es + j) c) zs)
      (by rw [List.length_append, hd, Array.length_toList, hsz, Nat.add_mul, Nat.one_mul])
      (by
        rw [← Array.length_toList, hzf]
        simp only [List.length_append, List.length_take, List.length_drop, Array.length_toList, hsz]
        rw [show (k + 1 + xs.length) * es = (k + (xs.length + 1)) * es by congr 1; omega]
        rw [List.length_cons] at hz
        omega)
      (by
        rw [hzf, List.take_append_of_le_length (by simp only [List.length_append, List.length_take, Array.length_toList, hsz, Nat.add_mul, Nat.one_mul]; omega), ht]
        exact List.take_of_length_le (by rw [List.length_append, hd, Array.length_toList, hsz, Nat.add_mul, Nat.one_mul]; omega))
    refine ⟨(ρ x).cells.toList ++ news, ?_, ?_, fun j d' u hdj huj => ?_⟩
    · simp only [numbered, List.map_cons, Instr.fill]
      rw [if_neg (by rw [hsz]; simp; omega), h1, List.append_assoc]
    · rw [List.length_append, Array.length_toList, hsz, h2, List.length_cons, Nat.add_mul, Nat.one_mul, Nat.add_comm]
    · rw [List.flatten_cons] at hdj
      by_cases hjl : j < ds.length
      · rw [List.getElem?_append_left hjl] at hdj
        rw [List.getElem?_append_left (by rw [Array.length_toList]; omega)] at huj
        exact c2 j d' u hdj (by rw [← toList_getElem?]; exact huj)
      · rw [List.getElem?_append_right (by omega)] at hdj
        rw [List.getElem?_append_right (by rw [Array.length_toList]; omega), Array.length_toList, hsz, ← hl'] at huj
        exact h3 _ d' u hdj huj

theorem PartsD.len {es : Nat} {xs : List Operand} {ys : List (List D)} (h : PartsD env es xs ys) : ys.length = xs.length ∧ ∀ y ∈ ys, y.length = es := by
  induction h with
  | nil => simp
  | cons _ _ hl _ ih =>
    refine ⟨by simp [ih.1], fun y hy => ?_⟩
    rcases List.mem_cons.1 hy with rfl | hy
    · exact Nat.eq_of_beq_eq_true hl
    · exact ih.2 y hy

/-- What a literal slice leaves. -/
theorem run_buildSlice {e es bytes n : Nat} {ps : Array (Nat × Operand)} {xs : List Operand} {ys : List (List D)} (ht : AppT P t e es bytes) (hps : ps.toList = numbered 0 xs) (hn : n = xs.length) (hp : PartsD env es xs ys) (hsmall : n * es ≤ 16777216)
    {w : World} {o : Nat → Prop} {ρ : Operand → Value} (hx : ∀ x ∈ xs, ∀ dx, opD env x = some dx → Rep w o dx (ρ x)) :
    ∃ news : List Value, (execOp ρ ⟨dst, .buildSlice t n ps, ty, pos, af, gd⟩).run P w = .ok (.value (.slice (some ⟨w.heap.size, 0, none⟩) n n)) (w.alloc (.cells news.toArray e)) ∧ news.length = ys.length * es ∧
        ∀ (j : Nat) (d : D) (u : Value), ys.flatten[j]? = some d → news[j]? = some u → u.oneCell' = true ∧ Rep w o d u := by
  obtain ⟨i, z, hi, hz, hsz, hby, hzs⟩ := ht.info
  subst hn
  have hzr : (zeroValue e).run P w = .ok z w := by simp [zeroValue, typeInfo, hi, hz]
  have e1 : (Array.map (fun x => match x with | (i, x) => (i, ρ x)) ps).toList = (numbered 0 xs).map fun (i, x) => (i, ρ x) := by rw [← hps]; simp
  have hsmall' : ¬ (xs.length * es > 2 ^ 24) := by omega
  by_cases h0 : xs.length * es = 0
  · obtain ⟨news, h1, h2, h3⟩ := run_fill_parts (w := w) (o := o) (ρ := ρ) hp hx 0 [] ((Array.range (xs.length * es)).map ((#[] : Array Value)[· % (#[] : Array Value).size]!)) (by simp) (by simp) (by simp)
    refine ⟨news, ?_, by rw [h2, hp.len.1], h3⟩
    rw [h0] at h1
    simp only [execOp, Instr.buildSlice, Sem.run_bind, run_underlying ht.under, Result.andThen_ok, ht.size, h0, show ¬ (0 > 2 ^ 24) by omega, if_false, if_true, Sem.run_pure, e1, h1]
    simp [newRow]
  · obtain ⟨news, h1, h2, h3⟩ := run_fill_parts (w := w) (o := o) (ρ := ρ) hp hx 0 [] ((Array.range (xs.length * es)).map (z.cells[· % z.cells.size]!)) (by simp) (by simp) (by simp)
    refine ⟨news, ?_, by rw [h2, hp.len.1], h3⟩
    simp only [execOp, Instr.buildSlice, Sem.run_bind, run_underlying ht.under, Result.andThen_ok, ht.size, hsmall', h0, if_false, Sem.run_pure, hzr, e1, h1]
    simp [newRow]

theorem pure_buildSlice {e es bytes n : Nat} {ps : Array (Nat × Operand)} {xs : List Operand} {ys : List (List D)} (ht : AppT P t e es bytes) (hsmall : n * es ≤ 16777216) (hps : ps.toList = numbered 0 xs) (hn : n = xs.length) (hp : PartsD env es xs ys) :
    Pure P H ⟨dst, .buildSlice t n ps, ty, pos, af, gd⟩ env (.sl es ys) := by
  intro w F a hh hF hx r next Q hnx
  have hop : ∀ (ps : List (Nat × Operand)) (k : Nat) (xs : List Operand), ps = numbered k xs → ∀ x ∈ xs, x ∈ ps.map (·.2) := by
    intro ps k xs h
    subst h
    induction xs generalizing k with
    | nil => intro x hx; cases hx
    | cons y ys ih =>
      intro x hx
      rcases List.mem_cons.1 hx with rfl | hx
      · simp [numbered]
      · simp only [numbered, List.map_cons, List.mem_cons]; exact .inr (ih (k + 1) x hx)
  obtain ⟨news, h1, h2, h3⟩ := run_buildSlice (dst := dst) (ty := ty) (pos := pos) (af := af) (gd := gd) ht hps hn hp hsmall (w := w) (o := both F H) (ρ := a.eval) (fun x hxm dx hd => hx x (by
      simp only [Op.operands]
      have := hop ps.toList 0 xs hps x hxm
      simpa using this) dx hd)
  refine wpIn_ok (fun _ h => by cases h) h1 ?_
  have hk : Kept no w (w.alloc (.cells news.toArray e)) := Kept.alloc _ _ _
  refine hnx _ _ ?_ hk
  have hlen := hp.len
  have hnl : n = ys.length := by rw [hn, hlen.1]
  refine row_data (e := e) ht.pos ⟨news, ⟨by rw [h2], .inr ⟨w.heap.size, n, news.toArray, by rw [hnl], Nat.zero_le _, heap_alloc_new w _, by omega, ?_, by simp [h2, hnl], ?_⟩⟩, hlen.2, fun j d u hd hu => ⟨(h3 j d u hd hu).1, (h3 j d u hd hu).2.kept hk (fun _ _ hf => hf.elim) (fun _ _ h => h)⟩⟩ (fun g hg => ?_)
  · have : n ≤ n * es := Nat.le_mul_of_pos_right n ht.pos
    simp only [maxLen]; omega
  · rw [List.take_of_length_le (by simp [h2])]
  · simp only [Value.ownBlock, Option.some.injEq] at hg
    subst hg
    rintro (hFg | ⟨b, hb, hbg⟩)
    · have := (hF _ hFg).1; omega
    · have := Blk.blk_lt (hh.each b hb) hbg; omega

end

section
variable {K : Ctx} {Q : Exit → Env → Hp → Prop} {env : Env} {H H' : Hp} {ops : Array Oper} {rest : List Oper} {t : Nat} {ty : TypeId} {pos : String} {af : Array Edge}

/-- A literal slice that the call goes on to grow or to write. -/
theorem TL.buildRow {T e es bytes n : Nat} {ps : Array (Nat × Operand)} {xs : List Operand} {ys : List (List D)} (ht : AppT K.P T e es bytes) (hsmall : n * es ≤ 16777216) (hps : ps.toList = numbered 0 xs) (hn : n = xs.length) (hp : PartsD env es xs ys) (hd : Nat.blt t K.n = true)
    (h : ∀ v, v.oneCell' = true → TL K ops rest Q (env.put t (some (.v v))) (.row v e es ys :: H)) : TL K ops (⟨some t, .buildSlice T n ps, ty, pos, af, none⟩ :: rest) Q env H := fun a w hs => by
  unfold wpListIn
  rw [if_pos (by rfl)]
  obtain ⟨news, h1, h2, h3⟩ := run_buildSlice (dst := some t) (ty := ty) (pos := pos) (af := af) (gd := none) ht hps hn hp hsmall (w := w) (o := both K.F H) (ρ := a.eval) (fun x hxm dx hd => hs.eval hd)
  refine wpIn_ok (fun _ h => by cases h) h1 ?_
  have hlen := hp.len
  have hnl : n = ys.length := by rw [hn, hlen.1]
  have hk : Kept no w (w.alloc (.cells news.toArray e)) := Kept.alloc _ _ _
  have hb : ∀ g, (Blk.row (.slice (some ⟨w.heap.size, 0, none⟩) n n) e es ys).blk = some g → w.heap.size ≤ g := fun g hg => by
    simp only [Blk.blk, Value.ownBlock, Option.some.injEq] at hg; omega
  refine h _ rfl _ _ (Sat.dst (hs.push hk hb ⟨news, ⟨by rw [h2], .inr ⟨w.heap.size, n, news.toArray, by rw [hnl], Nat.zero_le _, heap_alloc_new w _, by omega, ?_, by simp [h2, hnl], ?_⟩⟩, hlen.2, fun j d u hd hu => ⟨(h3 j d u hd hu).1, hs.rep_push hk hb (h3 j d u hd hu).2⟩⟩) (by simpa [Nat.blt_eq] using hd) (.v _))
  · have : n ≤ n * es := Nat.le_mul_of_pos_right n ht.pos
    simp only [maxLen]; omega
  · rw [List.take_of_length_le (by simp [h2])]

/-- The address of an element of a row of the call's own. -/
theorem TL.indexRow {T e' es e : Nat} {x y : Operand} {v : Value} {xs : List (List D)} {k : IntKind} {i : Int} (ht : SliceT K.P T e' es) (hx : opD env x = some (.v v)) (hy : opD env y = some (.v (.int k i))) (hm : Blk.row v e es xs ∈ H) (h0 : 0 ≤ i) (hi : i < xs.length)
    (hd : Nat.blt t K.n = true) (h : ∀ g, v.ownBlock = some g → TL K ops rest Q (env.put t (some (.v (.pointer (some ⟨g, i.toNat * es, none⟩))))) H) :
    TL K ops (⟨some t, .indexAddr T x y, ty, pos, af, none⟩ :: rest) Q env H := fun a w hs => by
  unfold wpListIn
  rw [if_pos (by rfl)]
  have e1 := Rep.of_v (hs.eval hx)
  have e2 := Rep.of_v (hs.eval hy)
  obtain ⟨vals, hown, hxe, hj⟩ := row_ok hs.heap hm
  rcases hown.2 with ⟨_, hn⟩ | ⟨g, cap, cur, hv, _⟩
  · rw [hn] at hi; omega
  · have e3 : (execOp a.eval ⟨some t, .indexAddr T x y, ty, pos, af, none⟩).run K.P w = .ok (.value (.pointer (some ⟨g, i.toNat * es, none⟩))) w := by
      have ha : (⟨g, 0, none⟩ : Addr).add (i.toNat * es) = ⟨g, i.toNat * es, none⟩ := by rw [own_add, Nat.zero_add]
      simp [execOp, Instr.indexAt, e1, e2, hv, asIntOf, run_underlying ht.under, h0, hi, ht.size, ha]
    refine wpIn_ok (fun _ h => by cases h) e3 ?_
    exact h g (by rw [hv]; rfl) _ _ (hs.dst (by simpa [Nat.blt_eq] using hd) (.v _))

/-- A store into an element of a row of the call's own. -/
theorem TL.storeRow {T g off o n i e es : Nat} {x y : Operand} {d : D} {v : Value} {xs : List (List D)} {c c' ds : List D} (hx : opD env x = some (.v (.pointer (some ⟨g, off, none⟩)))) (hv : v.ownBlock = some g) (hoff : off = i * es + o) (hy : opD env y = some d) (hc : CellsD d ds)
    (hn : ∀ w, (sizeOf T).run K.P w = .ok n w) (hl : ds.length = n) (hu : UpdR (.row v e es xs) (.row v e es (xs.set i c')) H H') (hi : xs[i]? = some c) (hp : PutR o ds c c')
    (h : TL K ops rest Q env H') : TL K ops (⟨none, .store T x y, ty, pos, af, none⟩ :: rest) Q env H := fun a w hs => by
  unfold wpListIn
  rw [if_pos (by rfl)]
  have e1 := Rep.of_v (hs.eval hx)
  obtain ⟨h1, h2⟩ := hc.rep (hs.eval hy)
  obtain ⟨vals, hown, hxe, hj⟩ := row_ok hs.heap hu.mem
  obtain ⟨p1, p2⟩ := hp.spec
  have hcl : c.length = es := hxe c (List.mem_of_getElem? hi)
  have hil : i < xs.length := (List.getElem?_eq_some_iff.1 hi).1
  have hle : i * es + es ≤ xs.length * es := by
    have := Nat.mul_le_mul_right es (show i + 1 ≤ xs.length from hil)
    rwa [Nat.add_mul, Nat.one_mul] at this
  rcases hown.2 with ⟨hnil, hn0⟩ | ⟨g', cap, cur, hveq, _, hg, hnc, hcm, hcs, htake⟩
  · rw [hn0] at hil; omega
  have hgg : g' = g := by rw [hveq] at hv; simpa [Value.ownBlock] using hv
  subst hgg
  have hcap : xs.length * es ≤ cap * es := Nat.mul_le_mul_right es hnc
  have hlen : (a.eval y).cells.toList.length = ds.length := by rw [Array.length_toList]; exact h1
  have honce : ∀ u ∈ (a.eval y).cells.toList, u.oneCell' = true := fun u hu => by
    obtain ⟨j, hju⟩ := List.mem_iff_getElem?.1 hu
    have hlt : j < ds.length := by rw [← hlen]; exact (List.getElem?_eq_some_iff.1 hju).1
    exact (h2 j _ u (List.getElem?_eq_getElem hlt) (by rw [← toList_getElem?]; exact hju)).1
  have hst := run_storeCells_at (P := K.P) g' off e (a.eval y).cells.toList 0 cur w hg (by rw [hlen, hcs, hoff]; omega) honce
  rw [hlen] at hst
  simp only [Nat.add_zero] at hst
  have e3 : (execOp a.eval ⟨none, .store T x y, ty, pos, af, none⟩).run K.P w = .ok .skip (w.setRow g' (cur.toList.take off ++ (a.eval y).cells.toList ++ cur.toList.drop (off + ds.length)).toArray) := by
    simp [execOp, Instr.storeAt, e1, Instr.sureAddr, storeVar, hn, h1, hl, hst]
  refine wpIn_ok (fun _ h => by cases h) e3 ?_
  have k : Kept (fun x => (Blk.row v e es xs).blk = some x) w (w.setRow g' (cur.toList.take off ++ (a.eval y).cells.toList ++ cur.toList.drop (off + ds.length)).toArray) :=
    ⟨rfl, rfl, rfl, by simp [World.setRow], fun j _ hn => setRow_other w g' j _ (fun e => hn (by rw [e]; exact hv))⟩
  have hbb : ∀ g'', (Blk.row v e es (xs.set i c')).blk = some g'' → (Blk.row v e es xs).blk = some g'' ∨ w.heap.size ≤ g'' := fun g'' h => .inl h
  have hrep : ∀ {d u}, Rep w (both K.F H) d u → Rep _ (both K.F H') d u := fun hr => hs.rep_upd hu hbb k hr
  have hc'l : c'.length = es := by rw [p2]; simp only [List.length_append, List.length_take, List.length_drop]; omega
  have hvl : vals.length = xs.length * es := hown.1
  have hnl : (cur.toList.take off ++ (a.eval y).cells.toList ++ cur.toList.drop (off + ds.length)).length = cap * es := by
    simp only [List.length_append, List.length_take, List.length_drop, Array.length_toList, h1, hcs]; omega
  refine h _ _ (Sat.upd (b := .row v e es xs) (b' := .row v e es (xs.set i c')) hs hu hbb k ⟨(cur.toList.take off ++ (a.eval y).cells.toList ++ cur.toList.drop (off + ds.length)).take (xs.length * es), ⟨?_, .inr ⟨g', cap, _, ?_, Nat.zero_le _, setRow_heap w g' cur _ e _ hg, ?_, hcm, by simpa using hnl, ?_⟩⟩, ?_, ?_⟩)
  · rw [List.length_take, hnl, List.length_set]; omega
  · rw [List.length_set]; exact hveq
  · rw [List.length_set]; exact hnc
  · rw [List.length_set]
  · intro z hz
    rcases List.mem_or_eq_of_mem_set hz with h | h
    · exact hxe z h
    · rw [h]; exact hc'l
  · intro j d' u' hd' hu'
    have hes : 0 < es := by
      rcases Nat.eq_zero_or_pos es with h0 | h0
      · subst h0
        have : (xs.set i c').flatten.length = (xs.set i c').length * 0 := flatten_len _ fun z hz => by
          rcases List.mem_or_eq_of_mem_set hz with h | h
          · exact hxe z h
          · rw [h]; exact hc'l
        have := (List.getElem?_eq_some_iff.1 hd').1
        omega
      · exact h0
    have hset : ∀ z ∈ xs.set i c', z.length = es := fun z hz => by
      rcases List.mem_or_eq_of_mem_set hz with h | h
      · exact hxe z h
      · rw [h]; exact hc'l
    have hjl : j < xs.length * es := by
      have := (List.getElem?_eq_some_iff.1 hd').1
      rw [flatten_len _ hset, List.length_set] at this
      exact this
    rw [flatten_get hes _ hset] at hd'
    rw [List.getElem?_take_of_lt hjl] at hu'
    have hold : ∀ d'', xs.flatten[j]? = some d'' → (j < off ∨ off + ds.length ≤ j) → u'.oneCell' = true ∧ Rep _ (both K.F H') d'' u' := fun d'' hd'' hout => by
      have hcur : cur.toList[j]? = some u' := by
        rcases hout with ho | ho
        · rw [List.append_assoc, List.getElem?_append_left (by rw [List.length_take, Array.length_toList, hcs]; omega), List.getElem?_take_of_lt ho] at hu'
          exact hu'
        · rw [List.getElem?_append_right (by simp only [List.length_append, List.length_take, Array.length_toList, h1, hcs]; omega), List.getElem?_drop] at hu'
          simp only [List.length_append, List.length_take, Array.length_toList, h1, hcs] at hu'
          rw [show off + ds.length + (j - (min off (cap * es) + ds.length)) = j by omega] at hu'
          exact hu'
      have hv' : vals[j]? = some u' := by rw [← htake, List.getElem?_take_of_lt hjl]; exact hcur
      obtain ⟨q1, q2⟩ := hj j d'' u' hd'' hv'
      exact ⟨q1, hrep q2⟩
    by_cases hji : j / es = i
    · rw [hji, List.getElem?_set_self hil] at hd'
      simp only [Option.bind_some] at hd'
      have hjj : j = i * es + j % es := by rw [← hji, Nat.mul_comm]; exact (Nat.div_add_mod j es).symm
      have hmod : j % es < es := Nat.mod_lt _ hes
      rw [p2] at hd'
      by_cases q1 : j % es < o
      · rw [List.append_assoc, List.getElem?_append_left (by rw [List.length_take]; omega), List.getElem?_take_of_lt q1] at hd'
        refine hold d' ?_ (.inl (by omega))
        rw [flatten_get hes xs hxe, hji, hi]; exact hd'
      · by_cases q2 : j % es < o + ds.length
        · rw [List.append_assoc, List.getElem?_append_right (by rw [List.length_take]; omega), List.getElem?_append_left (by rw [List.length_take]; omega), List.length_take] at hd'
          rw [List.append_assoc, List.getElem?_append_right (by rw [List.length_take, Array.length_toList, hcs]; omega), List.getElem?_append_left (by rw [List.length_take, Array.length_toList, hcs, hlen]; omega), List.length_take, Array.length_toList, hcs] at hu'
          have ee : j - min off (cap * es) = j % es - min o c.length := by omega
          rw [ee] at hu'
          obtain ⟨r1, r2⟩ := h2 _ d' u' hd' (by rw [← toList_getElem?]; exact hu')
          exact ⟨r1, hrep r2⟩
        · rw [List.getElem?_append_right (by simp only [List.length_append, List.length_take]; omega), List.getElem?_drop] at hd'
          simp only [List.length_append, List.length_take] at hd'
          refine hold d' ?_ (.inr (by omega))
          rw [flatten_get hes xs hxe, hji, hi]
          rw [show o + ds.length + (j % es - (min o c.length + ds.length)) = j % es by omega] at hd'
          exact hd'
    · rw [List.getElem?_set_ne (fun e => hji e.symm)] at hd'
      refine hold d' (by rw [flatten_get hes xs hxe]; exact hd') ?_
      have hjj : j = j / es * es + j % es := by rw [Nat.mul_comm]; exact (Nat.div_add_mod j es).symm
      have hmod : j % es < es := Nat.mod_lt _ hes
      rcases Nat.lt_or_ge (j / es) i with hlt | hge
      · left
        have := Nat.mul_le_mul_right es (show j / es + 1 ≤ i from hlt)
        rw [Nat.add_mul, Nat.one_mul] at this
        omega
      · right
        have := Nat.mul_le_mul_right es (show i + 1 ≤ j / es by omega)
        rw [Nat.add_mul, Nat.one_mul] at this
        omega

end

section
variable {P : Program} {H : Hp} {env : Env} {dst : Option Tmp} {ty : TypeId} {pos : String} {af : Array Edge} {gd : Option (Nat × Bool)} {t : TypeId} {x y : Operand}

theorem row_cells {w : World} {F : Nat → Prop} (hh : HeapOK w (both F H) H) {v : Value} {e es g i o : Nat} {xs : List (List D)} {c cs' : List D} (hm : Blk.row v e es xs ∈ H) (hes : 0 < es) (hv : v.ownBlock = some g) (hi : xs[i]? = some c) (hd : DropR o c cs') :
    ∃ val : Nat → Value, ∀ (j : Nat) (d : D), cs'[j]? = some d → w.cell? ⟨g, i * es + o + j, none⟩ = some (val j) ∧ (val j).oneCell' = true ∧ Rep w (both F H) d (val j) := by
  obtain ⟨vals, hown, hxe, hj⟩ := row_ok hh hm
  have hcl : c.length = es := hxe c (List.mem_of_getElem? hi)
  have hil : i < xs.length := (List.getElem?_eq_some_iff.1 hi).1
  have hle : i * es + es ≤ xs.length * es := by
    have := Nat.mul_le_mul_right es (show i + 1 ≤ xs.length from hil)
    rwa [Nat.add_mul, Nat.one_mul] at this
  rcases hown.2 with ⟨hnil, hn0⟩ | ⟨g', cap, cur, hveq, _, hg, hnc, hcm, hcs, htake⟩
  · rw [hn0] at hil; omega
  have hgg : g' = g := by rw [hveq] at hv; simpa [Value.ownBlock] using hv
  subst hgg
  refine ⟨fun j => vals.getD (i * es + o + j) undef, fun j d hdj => ?_⟩
  have hcj : c[o + j]? = some d := by rw [← hd.get]; exact hdj
  have hlt : o + j < es := by rw [← hcl]; exact (List.getElem?_eq_some_iff.1 hcj).1
  have hfl : xs.flatten[i * es + o + j]? = some d := by
    rw [flatten_get hes xs hxe]
    have e1 : (i * es + o + j) / es = i := by rw [Nat.add_assoc, Nat.mul_comm, Nat.mul_add_div hes, Nat.div_eq_of_lt hlt, Nat.add_zero]
    have e2 : (i * es + o + j) % es = o + j := by rw [Nat.add_assoc, Nat.mul_comm, Nat.mul_add_mod, Nat.mod_eq_of_lt hlt]
    rw [e1, e2, hi]; exact hcj
  have hvl : vals.length = xs.length * es := hown.1
  have hv' : vals[i * es + o + j]? = some (vals.getD (i * es + o + j) undef) := by
    rw [List.getElem?_eq_getElem (by omega)]
    simp [show i * es + o + j < vals.length by omega]
  obtain ⟨q1, q2⟩ := hj _ d _ hfl hv'
  refine ⟨?_, q1, q2⟩
  rw [cell_of_row w g' _ cur e (0, 0) hg, ← hv', ← htake, List.getElem?_take_of_lt (by omega)]
  simp

theorem pure_load1_row {g off o i e es : Nat} {v : Value} {xs : List (List D)} {c cs' : List D} {d : D} (ht : OneT P t) (hes : 0 < es) (hx : opD env x = some (.v (.pointer (some ⟨g, off, none⟩)))) (hv : v.ownBlock = some g) (hm : Blk.row v e es xs ∈ H) (hoff : off = i * es + o) (hi : xs[i]? = some c) (h1 : DropR o c (d :: cs')) :
    Pure P H ⟨dst, .load t x, ty, pos, af, gd⟩ env d := pure_of fun w F ρ hh h => by
  have e1 := Rep.of_v (h x (by simp [Op.operands]) _ hx)
  obtain ⟨val, hval⟩ := row_cells hh hm hes hv hi h1
  obtain ⟨a1, a2, a3⟩ := hval 0 d rfl
  rw [Nat.add_zero, ← hoff] at a1
  exact ⟨val 0, by simp [execOp, e1, Instr.loadAt, Instr.sureAddr, loadVar, ht.one, a1], a3⟩

theorem pure_load_row {g off o i n e es : Nat} {v : Value} {xs : List (List D)} {c cs' ds : List D} (ht : AggT P t n) (hes : 0 < es) (hx : opD env x = some (.v (.pointer (some ⟨g, off, none⟩)))) (hv : v.ownBlock = some g) (hm : Blk.row v e es xs ∈ H) (hoff : off = i * es + o) (hi : xs[i]? = some c) (h1 : DropR o c cs') (h2 : TakeR n cs' ds) :
    Pure P H ⟨dst, .load t x, ty, pos, af, gd⟩ env (.agg ds) := pure_of fun w F ρ hh h => by
  have e1 := Rep.of_v (h x (by simp [Op.operands]) _ hx)
  obtain ⟨val, hval⟩ := row_cells hh hm hes hv hi h1
  have hds : ∀ j, j < n → ∃ d, ds[j]? = some d ∧ cs'[j]? = some d := fun j hj => by
    have hl := h2.get.1
    exact ⟨ds[j]'(by omega), List.getElem?_eq_getElem (by omega), h2.get.2 _ _ (List.getElem?_eq_getElem (by omega))⟩
  have hc : ∀ j, j < n → w.cell? ((⟨g, off, none⟩ : Addr).add j) = some (val j) := fun j hj => by
    obtain ⟨d, _, hc⟩ := hds j hj
    rw [own_add, hoff]; exact (hval j d hc).1
  refine ⟨.agg ((List.range n).map val).toArray, by simp [execOp, e1, Instr.loadAt, Instr.sureAddr, loadVar, ht.agg, ht.size, run_loadCells_vals hc], .agg ds _ (by simp [h2.get.1]) (fun j u hu => ?_) (fun j d u hd hu => ?_)⟩
  · have hjn : j < n := by
      rcases Nat.lt_or_ge j n with h | h
      · exact h
      · simp [h] at hu
    obtain ⟨d, _, hcd⟩ := hds j hjn
    have : u = val j := by simpa [hjn] using hu.symm
    subst this
    exact (hval j d hcd).2.1
  · have hjn : j < n := by rw [← h2.get.1]; exact (List.getElem?_eq_some_iff.1 hd).1
    have : u = val j := by simpa [hjn] using hu.symm
    subst this
    exact (hval j d (h2.get.2 j d hd)).2.2

end
end Go.Ob
