/- More operations: rows that a call grows, read; parts of slices; values built; cuts at guarded regions. -/
import Derived.Test.YtlhjcleejolbiaaObG
set_option linter.unusedVariables false
set_option linter.unusedSimpArgs false
set_option linter.unusedSectionVars false
namespace Go.Ob
open Go.RowKit

/-! ### a region with guards, cut -/
def Same (ts : List Nat) (env env' : Env) : Prop := ∀ t, ts.any (Nat.beq t) = false → env' t = env t
def Env.without (ts : List Nat) (env : Env) : Env := fun t => bif ts.any (Nat.beq t) then none else env t
theorem Same.refl (ts : List Nat) (env : Env) : Same ts env env := fun _ _ => rfl
theorem Same.put {ts : List Nat} {env env' : Env} {t : Nat} {od : Option D} (ht : ts.any (Nat.beq t) = true) (h : Same ts env env') : Same ts env (env'.put t od) := fun t' h' => by
  have hne : t' ≠ t := fun e => by subst e; rw [ht] at h'; cases h'
  rw [Env.put_other hne]
  exact h t' h'

section
variable {K : Ctx} {Q : Exit → Env → Hp → Prop} {env : Env} {H : Hp}
def cutQ (ts : List Nat) (tq : Nat) (p : Prop) (env : Env) (H : Hp) (e : Exit) (env' : Env) (H' : Hp) : Prop :=
  e = .normal ∧ H' = H ∧ Same ts env env' ∧ ∃ b, env' tq = some (.v (.bool b)) ∧ (b = true ↔ p)
theorem cut_view {c : Code} {ts : List Nat} {tq : Nat} {p : Prop} [Decidable p] {env' : Env} (hs : Same ts env env') {b : Bool} (hb : env' tq = some (.v (.bool b))) (hp : b = true ↔ p)
    (h' : TC K c Q ((env.without ts).put tq (some (.v (.bool (decide p))))) H) : TC K c Q env' H := by
  refine TC.forget (fun t d hd => ?_) (List.Sublist.refl _) h'
  rcases Env.put_some hd with ⟨rfl, ho⟩ | ⟨hne, ho⟩
  · injection ho with ho
    subst ho
    rw [hb]
    have : b = decide p := by cases b <;> simp_all
    rw [this]
  · unfold Env.without at ho
    cases ha : ts.any (Nat.beq t) with
    | true => rw [ha] at ho; cases ho
    | false => rw [ha] at ho; rw [hs t ha]; exact ho
theorem TC.regionCut {id : Nat} {l : List Oper} {c : Code} (ts : List Nat) (tq : Nat) (p : Prop) [Decidable p] (h : TL K l.toArray l (cutQ ts tq p env H) env H)
    (h' : TC K c Q ((env.without ts).put tq (some (.v (.bool (decide p))))) H) : TC K (.seq (.region id l.toArray false) c) Q env H :=
  TC.seq (TC.mono (TC.region h) fun e env' H' ⟨he, hH, hs, b, hb, hp⟩ => by subst he; subst hH; exact cut_view hs hb hp h')
theorem TC.drawCut {id : Nat} {l : List Oper} {c : Code} (ts : List Nat) (tq : Nat) (p : Prop) [Decidable p] (hm : K.P.follows .mixedOrders = true) (hB : Region.lexB .any l.toArray = true)
    (h : TD K l.toArray l (cutQ ts tq p env H) env H) (h' : TC K c Q ((env.without ts).put tq (some (.v (.bool (decide p))))) H) : TC K (.seq (.region id l.toArray true) c) Q env H :=
  TC.seq (TC.mono (TC.draw hm hB h) fun e env' H' ⟨he, hH, hs, b, hb, hp⟩ => by subst he; subst hH; exact cut_view hs hb hp h')
theorem TL.cutEnd {ops : Array Oper} {ts : List Nat} {tq : Nat} {p : Prop} {env0 : Env} {b : Bool} (hs : Same ts env0 env) (hb : env tq = some (.v (.bool b))) (hp : b = true ↔ p) : TL K ops [] (cutQ ts tq p env0 H) env H :=
  TL.nil ⟨rfl, rfl, hs, b, hb, hp⟩
theorem TD.cutEnd {ops : Array Oper} {ts : List Nat} {tq : Nat} {p : Prop} {env0 : Env} {b : Bool} (hs : Same ts env0 env) (hb : env tq = some (.v (.bool b))) (hp : b = true ↔ p) : TD K ops [] (cutQ ts tq p env0 H) env H :=
  TD.nil (Q := cutQ ts tq p env0 H) ⟨rfl, rfl, hs, b, hb, hp⟩
end

section
variable {P : Program} {H : Hp} {env : Env} {dst : Option Tmp} {ty : TypeId} {pos : String} {af : Array Edge} {gd : Option (Nat × Bool)}

/-! ### a row that the call grows, read -/
theorem row_shape {w : World} {o : Nat → Prop} {v : Value} {e es : Nat} {xs : List (List D)} (h : (Blk.row v e es xs).ok w o) : ∃ a c, v = .slice a xs.length c := by
  obtain ⟨vals, ho, _⟩ := h
  rcases ho.2 with ⟨rfl, hn⟩ | ⟨g, cap, cur, rfl, _⟩
  · exact ⟨none, 0, by rw [hn]⟩
  · exact ⟨_, _, rfl⟩

theorem pure_len_row {x : Operand} {t e' es' e es : Nat} {v : Value} {xs : List (List D)} (ht : SliceT P t e' es') (hx : opD env x = some (.v v)) (hm : Blk.row v e es xs ∈ H) :
    Pure P H ⟨dst, .call { callee := .builtin .len, args := #[x], argTypes := #[t] }, ty, pos, af, gd⟩ env (.v (.int .i64 xs.length)) := pure_of fun w _ ρ hh h => by
  have e1 := Rep.of_v (h x (by simp [Op.operands, Call.operands]) _ hx)
  obtain ⟨a, c, hv⟩ := row_shape (hh.each _ hm)
  exact ⟨_, by simp [execOp, resolve, invoke, builtin, Builtin.len_, run_underlying ht.under, e1, hv, goInt], .v _⟩

theorem pure_len_nil {x : Operand} {t e' es' : Nat} (ht : SliceT P t e' es') (hx : opD env x = some (.v (.slice none 0 0))) :
    Pure P H ⟨dst, .call { callee := .builtin .len, args := #[x], argTypes := #[t] }, ty, pos, af, gd⟩ env (.v (.int .i64 0)) := pure_of fun w _ ρ hh h => by
  have e1 := Rep.of_v (h x (by simp [Op.operands, Call.operands]) _ hx)
  exact ⟨_, by simp [execOp, resolve, invoke, builtin, Builtin.len_, run_underlying ht.under, e1, goInt], .v _⟩

/-! ### parts of slices that are only read; of strings -/
theorem Rep.sl_part {w : World} {o : Nat → Prop} {es : Nat} {xs : List (List D)} {a : Option Addr} {n c : Nat} (h : Rep w o (.sl es xs) (.slice a n c)) {lo hi : Nat} (h1 : lo ≤ hi) (h2 : hi ≤ n) :
    n = xs.length ∧ n ≤ c ∧ Rep w o (.sl es ((xs.take hi).drop lo)) (.slice (if c = lo then a else a.map (·.add (lo * es))) (hi - lo) (c - lo)) := by
  cases h with
  | nil =>
    have e1 : hi = 0 := by omega
    have e2 : lo = 0 := by omega
    subst e1; subst e2
    exact ⟨rfl, Nat.le_refl _, by simpa using Rep.nil es⟩
  | sl _ _ a c val hc he hb hcell hrep =>
    refine ⟨rfl, hc, ?_⟩
    have hlen : ((xs.take hi).drop lo).length = hi - lo := by simp; omega
    have hget : ∀ i x, ((xs.take hi).drop lo)[i]? = some x → xs[lo + i]? = some x := by
      intro i x hx
      rw [List.getElem?_drop] at hx
      by_cases hl : lo + i < hi
      · rwa [List.getElem?_take_of_lt hl] at hx
      · rw [List.getElem?_eq_none (by simp; omega)] at hx; cases hx
    by_cases hcl : c = lo
    · have e1 : hi = lo := by omega
      have hnil : (xs.take hi).drop lo = [] := by apply List.eq_nil_of_length_eq_zero; rw [hlen]; omega
      rw [if_pos hcl, hnil, show hi - lo = ([] : List (List D)).length by simp; omega]
      exact .sl es [] a (c - lo) val (by simp) (by simp) (fun hne => absurd rfl hne) (fun i j x d hx => by simp at hx) (fun i j x d hx => by simp at hx)
    · rw [if_neg hcl, ← hlen]
      refine .sl es _ (a.add (lo * es)) (c - lo) (fun i j => val (lo + i) j) (by rw [hlen]; omega) (fun x hx => he x (List.mem_of_mem_take (List.mem_of_mem_drop hx))) (fun hne => ?_) (fun i j x d hx hd => ?_) (fun i j x d hx hd => hrep _ _ x d (hget i x hx) hd)
      · rw [Addr.block_add]
        exact hb (by rintro rfl; simp at hne)
      · have := hcell _ _ x d (hget i x hx) hd
        rw [add_add]
        rw [show lo * es + (i * es + j) = (lo + i) * es + j by rw [Nat.add_mul]; omega]
        exact this

/-- s[lo:hi], s[lo:], s[:hi] -/
theorem pure_slice {x : Operand} {t e es : Nat} {xs : List (List D)} {lo hi : Option Operand} {l h : Nat} (ht : SliceT P t e es) (hx : opD env x = some (.sl es xs))
    (hlo : match lo with | none => l = 0 | some y => opD env y = some (.v (.int .i64 (l : Int)))) (hhi : match hi with | none => h = xs.length | some y => opD env y = some (.v (.int .i64 (h : Int))))
    (h1 : l ≤ h) (h2 : h ≤ xs.length) : Pure P H ⟨dst, .slice t x lo hi none, ty, pos, af, gd⟩ env (.sl es ((xs.take h).drop l)) := pure_of fun w F ρ hh hr => by
  have hrep := hr x (by simp [Op.operands]) _ hx
  obtain ⟨a, c, e1⟩ := hrep.sl_len
  rw [e1] at hrep
  obtain ⟨_, hnc, hpart⟩ := hrep.sl_part h1 h2
  refine ⟨_, ?_, hpart⟩
  have el : ∀ y, lo = some y → ρ y = .int .i64 (l : Int) := fun y hy => by subst hy; exact Rep.of_v (hr y (by simp [Op.operands]) _ hlo)
  have eh : ∀ y, hi = some y → ρ y = .int .i64 (h : Int) := fun y hy => by subst hy; exact Rep.of_v (hr y (by simp [Op.operands]) _ hhi)
  have hb1 : (l : Int) ≤ (h : Int) := by omega
  have hb2 : (h : Int) ≤ (c : Int) := by omega
  have hb0 : (0 : Int) ≤ (l : Int) := by omega
  have hb3 : (0 : Int) ≤ (h : Int) := by omega
  have k1 : (xs.length : Int) ≤ (c : Int) := by omega
  have k2 : (l : Int) ≤ (xs.length : Int) := by omega
  have q1 : l ≤ xs.length := by omega
  have q2 : h ≤ c := by omega
  cases lo with
  | none =>
    have hl0 : l = 0 := hlo
    subst hl0
    cases hi with
    | none =>
      have hh0 : h = xs.length := hhi
      subst hh0
      simp [execOp, Instr.sliceAt, run_underlying ht.under, e1, Instr.slice, Instr.sliceBounds, ht.size]
    | some yh =>
      simp [execOp, Instr.sliceAt, run_underlying ht.under, e1, Instr.slice, Instr.sliceBounds, ht.size, eh yh rfl, Instr.sliceBound, asIntOf, q2]
  | some yl =>
    cases hi with
    | none =>
      have hh0 : h = xs.length := hhi
      subst hh0
      simp [execOp, Instr.sliceAt, run_underlying ht.under, e1, Instr.slice, Instr.sliceBounds, ht.size, el yl rfl, Instr.sliceBound, asIntOf, q1]
    | some yh =>
      simp [execOp, Instr.sliceAt, run_underlying ht.under, e1, Instr.slice, Instr.sliceBounds, ht.size, el yl rfl, eh yh rfl, Instr.sliceBound, asIntOf, q2, h1]

/-! ### values built -/
inductive FillR (place : Nat → Option (Nat × Nat)) (env : Env) : List (Nat × Operand) → List D → List D → Prop where
  | nil (cs : List D) : FillR place env [] cs cs
  | cons {i off size : Nat} {x : Operand} {d : D} {ds cs cs' cs'' : List D} {ps : List (Nat × Operand)} : place i = some (off, size) → opD env x = some d → CellsD d ds → ds.length = size →
      PutR off ds cs cs' → FillR place env ps cs' cs'' → FillR place env ((i, x) :: ps) cs cs''

theorem zip_fold (vs : Array Value) (off : Nat) : ∀ (l : List Value) (k : Nat) (cs : Array Value), off + k + l.length ≤ cs.size →
    ((l.zipIdx k).foldl (fun cs (c, j) => cs.setIfInBounds (off + j) c) cs).toList = cs.toList.take (off + k) ++ l ++ cs.toList.drop (off + k + l.length)
  | [], k, cs, _ => by simp
  | v :: l, k, cs, h => by
    simp only [List.zipIdx_cons, List.foldl_cons]
    rw [zip_fold vs off l (k + 1) _ (by rw [Array.size_setIfInBounds]; rw [List.length_cons] at h; omega)]
    have hlt : off + k < cs.size := by rw [List.length_cons] at h; omega
    have e0 : (cs.setIfInBounds (off + k) v).toList = cs.toList.set (off + k) v := by simp
    rw [e0]
    have e1 : off + (k + 1) = off + k + 1 := by omega
    rw [e1, List.take_set, List.drop_set_of_lt (by omega)]
    have e2 : List.take (off + k + 1) cs.toList = List.take (off + k) cs.toList ++ [cs.toList[off + k]'(by simpa using hlt)] := by
      rw [List.take_succ_eq_append_getElem (by simpa using hlt)]
    rw [e2, List.set_append_right _ _ (by rw [List.length_take]; omega)]
    have e3 : off + k - (List.take (off + k) cs.toList).length = 0 := by rw [List.length_take, Array.length_toList]; omega
    rw [e3]
    simp only [List.set_cons_zero, List.length_cons, List.append_assoc, List.cons_append, List.nil_append]
    rw [show off + k + 1 + l.length = off + k + (l.length + 1) by omega]

theorem run_fill {place : Nat → Option (Nat × Nat)} {w : World} {o : Nat → Prop} {ρ : Operand → Value} {ps : List (Nat × Operand)} {cs cs' : List D} (h : FillR place env ps cs cs')
    (hx : ∀ p ∈ ps, ∀ dx, opD env p.2 = some dx → Rep w o dx (ρ p.2)) : ∀ (vs : Array Value), vs.size = cs.length → (∀ (j : Nat) (d : D) (u : Value), cs[j]? = some d → vs[j]? = some u → u.oneCell' = true ∧ Rep w o d u) →
      ∃ us, Instr.fill place vs (ps.map fun (i, x) => (i, ρ x)) = some us ∧ us.size = cs'.length ∧ ∀ (j : Nat) (d : D) (u : Value), cs'[j]? = some d → us[j]? = some u → u.oneCell' = true ∧ Rep w o d u := by
  induction h with
  | nil cs => exact fun vs hs hj => ⟨vs, rfl, hs, hj⟩
  | @cons i off size x d ds cs cs' cs'' ps hp hxd hc hl hput _ ih =>
    intro vs hs hj
    obtain ⟨c1, c2⟩ := hc.rep (hx (i, x) (by simp) d hxd)
    obtain ⟨p1, p2⟩ := hput.spec
    have hsz : (ρ x).cells.size = size := by rw [c1, hl]
    have hfit : ¬ (off + (ρ x).cells.size > vs.size) := by rw [c1, hs]; omega
    have hz := zip_fold vs off (ρ x).cells.toList 0 vs (by rw [Array.length_toList, c1, hs]; simpa using p1)
    obtain ⟨us, h1, h2, h3⟩ := ih (fun p hp => hx p (by simp [hp])) ((ρ x).cells.zipIdx.foldl (fun cs (c, j) => cs.setIfInBounds (off + j) c) vs) (by
      have := congrArg List.length hz
      rw [← Array.foldl_toList, Array.toList_zipIdx]
      rw [← Array.length_toList, this, p2]
      simp only [List.length_append, List.length_take, List.length_drop, Array.length_toList, c1, hs, Nat.add_zero]) (fun j d' u' hd' hu' => by
      have hu'' : (vs.toList.take off ++ (ρ x).cells.toList ++ vs.toList.drop (off + ds.length))[j]? = some u' := by
        have e4 : off + 0 + (ρ x).cells.toList.length = off + ds.length := by rw [Array.length_toList, c1]; omega
        rw [e4, Nat.add_zero] at hz
        rw [← hz, ← Array.toList_zipIdx, Array.foldl_toList]
        simpa using hu'
      rw [p2] at hd'
      have hlen : (ρ x).cells.toList.length = ds.length := by rw [Array.length_toList]; exact c1
      have ho : off ≤ vs.toList.length := by rw [Array.length_toList, hs]; omega
      have e3 : min off cs.length = off := by omega
      have e4 : min off vs.toList.length = off := by omega
      by_cases q1 : j < off
      · rw [List.append_assoc, List.getElem?_append_left (by rw [List.length_take]; omega), List.getElem?_take_of_lt q1] at hd' hu''
        exact hj j d' u' hd' (by rw [← toList_getElem?]; exact hu'')
      · by_cases q2 : j < off + ds.length
        · rw [List.append_assoc, List.getElem?_append_right (by rw [List.length_take]; omega), List.getElem?_append_left (by rw [List.length_take]; omega)] at hd'
          rw [List.append_assoc, List.getElem?_append_right (by rw [List.length_take]; omega), List.getElem?_append_left (by rw [List.length_take, hlen]; omega)] at hu''
          rw [List.length_take, e3] at hd'
          rw [List.length_take, e4] at hu''
          exact c2 _ d' u' hd' (by rw [← toList_getElem?]; exact hu'')
        · rw [List.getElem?_append_right (by simp only [List.length_append, List.length_take]; omega), List.getElem?_drop] at hd'
          rw [List.getElem?_append_right (by simp only [List.length_append, List.length_take, hlen]; omega), List.getElem?_drop] at hu''
          simp only [List.length_append, List.length_take, e3, e4, hlen] at hd' hu''
          exact hj _ d' u' hd' (by rw [← toList_getElem?]; exact hu''))
    refine ⟨us, ?_, h2, h3⟩
    simp only [List.map_cons, Instr.fill, hp]
    rw [if_neg (by rw [hsz]; simp; rw [← hsz]; omega)]
    exact h1

/-- Where the fields of a struct lie. -/
structure PlacesT (P : Program) (t : Nat) (pl : List (Nat × Nat)) : Prop where
  places : ∃ fs, P.underlying t = some (.struct fs) ∧ ∀ w, (fs.mapM (fun f => do pure (f.offset, ← sizeOf f.type) : Field → Sem (Nat × Nat))).run P w = .ok pl.toArray w

theorem pure_build {t : Nat} {ps : Array (Nat × Operand)} {pl : List (Nat × Nat)} {zs : List Value} {cs : List D} (hp : PlacesT P t pl) (hz : ZeroT P t zs) (hf : FillR (fun (i : Nat) => pl[i]?) env ps.toList (zs.map .v) cs) :
    Pure P H ⟨dst, .build t ps, ty, pos, af, gd⟩ env (.agg cs) := pure_of fun w F ρ hh hx => by
  obtain ⟨fs, hu, hpl⟩ := hp.places
  obtain ⟨z, hzr, hzc⟩ := hz.zero
  obtain ⟨us, h1, h2, h3⟩ := run_fill (w := w) (o := both F H) (ρ := ρ) hf (fun p hp dx hd => hx p.2 (by
      simp only [Op.operands]
      have : p.2 ∈ ps.toList.map (·.2) := List.mem_map.2 ⟨p, hp, rfl⟩
      simpa using this) dx hd) zs.toArray (by simp) (fun j d u hd hu => by
      simp only [List.getElem?_map, Option.map_eq_some_iff] at hd
      obtain ⟨v, hv, rfl⟩ := hd
      have : v = u := by simpa [hv] using hu
      subst this
      exact ⟨List.all_eq_true.1 hz.one v (List.mem_of_getElem? hv), .v _⟩)
  refine ⟨.agg us, ?_, .agg cs us h2 (fun j u hu => ?_) (fun j d u hd hu => (h3 j d u hd hu).2)⟩
  · have e1 : (Array.map (fun x => match x with | (i, x) => (i, ρ x)) ps).toList = ps.toList.map fun (i, x) => (i, ρ x) := by simp
    simp only [execOp, Instr.build, Sem.run_bind, hzr, Result.andThen_ok, run_underlying hu, hpl, hzc, e1]
    have e2 : (fun (i : Nat) => pl.toArray[i]?) = (fun (i : Nat) => pl[i]?) := by funext i; simp
    rw [e2, h1]
    rfl
  · have hlt : j < cs.length := by rw [← h2]; exact (Array.getElem?_eq_some_iff.1 hu).1
    exact (h3 j _ u (List.getElem?_eq_getElem hlt) hu).1

end
end Go.Ob
