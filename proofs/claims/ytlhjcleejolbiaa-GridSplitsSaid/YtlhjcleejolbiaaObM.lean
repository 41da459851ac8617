/- Maps from pairs of ints to ints. -/
import Derived.Test.YtlhjcleejolbiaaObL
set_option linter.unusedVariables false
set_option linter.unusedSimpArgs false
set_option linter.unusedSectionVars false
namespace Go.Ob
open Go.RowKit

inductive FrzL (M : Blk → Prop) : List D → List D → Prop where
  | nil : FrzL M [] []
  | cons {d d' : D} {ds ds' : List D} : FrzR M d d' → FrzL M ds ds' → FrzL M (d :: ds) (d' :: ds')
theorem FrzL.spec {M : Blk → Prop} {ds ds' : List D} (h : FrzL M ds ds') : ds.length = ds'.length ∧ ∀ (j : Nat) (d d' : D), ds[j]? = some d → ds'[j]? = some d' → FrzR M d d' := by
  induction h with
  | nil => exact ⟨rfl, fun j d d' h => by simp at h⟩
  | cons h1 h2 ih =>
    refine ⟨by simp [ih.1], fun j d d' hd hd' => ?_⟩
    cases j with
    | zero => simp at hd hd'; subst hd; subst hd'; exact h1
    | succ j => exact ih.2 j d d' (by simpa using hd) (by simpa using hd')
theorem FrzR.aggL {M : Blk → Prop} {ds ds' : List D} (h : FrzL M ds ds') : FrzR M (.agg ds) (.agg ds') := .agg _ _ h.spec.1 h.spec.2
theorem FrzR.tupL {M : Blk → Prop} {ds ds' : List D} (h : FrzL M ds ds') : FrzR M (.tup ds) (.tup ds') := .tup _ _ h.spec.1 h.spec.2
theorem FrzR.fnL {M : Blk → Prop} {f : Nat} {ds ds' : List D} (h : FrzL M ds ds') : FrzR M (.fn f ds) (.fn f ds') := .fn _ _ _ h.spec.1 h.spec.2
theorem FrzR.rowS {M : Blk → Prop} {v : Value} {e es : Nat} {xs : List (List D)} (hm : M (.row v e es xs)) (hes : 0 < es) (hl : ∀ x ∈ xs, x.length = es) : FrzR M (.v v) (.sl es xs) :=
  .row v e es xs xs hm hes rfl hl fun j d d' h1 h2 => by rw [h1] at h2; cases h2; exact .same d
theorem FrzR.mpS {M : Blk → Prop} {g : Nat} {ks : List Value} {ds : List D} (hm : M (.mp g ks ds)) : FrzR M (.v (.map (some g))) (.mp ks ds) :=
  .mp g ks ds ds hm rfl fun j d d' h1 h2 => by rw [h1] at h2; cases h2; exact .same d
theorem FrzR.boxS {M : Blk → Prop} {g t : Nat} {cs : List D} (hm : M (.box g t cs)) (hne : cs ≠ []) : FrzR M (.v (.pointer (some ⟨g, 0, none⟩))) (.at_ cs) :=
  .box g t 0 cs cs cs hm (.zero _) hne rfl fun j d d' h1 h2 => by rw [h1] at h2; cases h2; exact .same d

structure ArrT (P : Program) (t n e es : Nat) : Prop where
  under : P.underlying t = some (.array n e)
  size : ∀ w, (sizeOf e).run P w = .ok es w
theorem pure_build_arr {P : Program} {H : Hp} {env : Env} {dst : Option Tmp} {ty : TypeId} {pos : String} {af : Array Edge} {gd : Option (Nat × Bool)} {t n e es : Nat} {ps : Array (Nat × Operand)} {zs : List Value} {cs : List D} (hp : ArrT P t n e es) (hz : ZeroT P t zs)
    (hf : FillR (fun (i : Nat) => some (i * es, es)) env ps.toList (zs.map .v) cs) : Pure P H ⟨dst, .build t ps, ty, pos, af, gd⟩ env (.agg cs) := pure_of fun w F ρ hh hx => by
  obtain ⟨z, hzr, hzc⟩ := hz.zero
  obtain ⟨us, h1, h2, h3⟩ := run_fill (w := w) (o := both F H) (ρ := ρ) hf (fun p hp dx hd => hx p.2 (by
      simp only [Op.operands]
      have : p.2 ∈ ps.toList.map (·.2) := List.mem_map.2 ⟨p, hp, rfl⟩
      simpa using this) dx hd) zs.toArray (by simp) (fun j d u hd hu => by
      simp only [List.getElem?_map, Option.map_eq_some_iff] at hd
      obtain ⟨v, hv, rfl⟩ := hd
      have : v = u := by simpa [hv] using hu
      subst this
      exact ⟨List.all_eq_true.1 hz.one v (List.mem_of_getElem? hv), .v _⟩)
  refine ⟨.agg us, ?_, .agg cs us h2 (fun j u hu => ?_) (fun j d u hd hu => (h3 j d u hd hu).2)⟩
  · have e1 : (Array.map (fun x => match x with | (i, x) => (i, ρ x)) ps).toList = ps.toList.map fun (i, x) => (i, ρ x) := by simp
    simp only [execOp, Instr.build, Sem.run_bind, hzr, Result.andThen_ok, run_underlying hp.under, hp.size, hzc, e1]
    rw [h1]
    rfl
  · have hlt : j < cs.length := by rw [← h2]; exact (Array.getElem?_eq_some_iff.1 hu).1
    exact (h3 j _ u (List.getElem?_eq_getElem hlt) hu).1

abbrev PM := List ((Int × Int) × Int)
def look (m : PM) (k : Int × Int) : Option Int := match m with
  | [] => none
  | p :: m => if p.1 = k then some p.2 else look m k
def insM (m : PM) (k : Int × Int) (v : Int) : PM := match m with
  | [] => [(k, v)]
  | p :: m => if p.1 = k then (k, v) :: m else p :: insM m k v
def keysM (m : PM) : List Value := m.map fun p => pairV p.1.1 p.1.2
def valsM (m : PM) : List D := m.map fun p => .v (.int .i64 p.2)
def NodupM (m : PM) : Prop := (m.map (·.1)).Nodup

theorem keysM_good (m : PM) : ∀ k ∈ keysM m, isPair k := by
  intro k hk
  simp only [keysM, List.mem_map] at hk
  obtain ⟨p, _, rfl⟩ := hk
  exact ⟨_, _, rfl⟩
theorem NodupM.keys {m : PM} (h : NodupM m) : (keysM m).Nodup := by
  unfold NodupM at h
  unfold keysM
  induction m with
  | nil => simp
  | cons p m ih =>
    simp only [List.map_cons, List.nodup_cons] at h ⊢
    refine ⟨fun hm => h.1 ?_, ih h.2⟩
    simp only [List.mem_map] at hm ⊢
    obtain ⟨q, hq, he⟩ := hm
    obtain ⟨h1, h2⟩ := pairV_inj he
    exact ⟨q, hq, Prod.ext h1 h2⟩
theorem look_rel (m : PM) (k : Int × Int) : LookR (pairV k.1 k.2) (keysM m) (valsM m) ((look m k).map fun n => .v (.int .i64 n)) := by
  induction m with
  | nil => exact .nil
  | cons p m ih =>
    unfold look
    by_cases hp : p.1 = k
    · rw [if_pos hp]
      subst hp
      exact .here
    · rw [if_neg hp]
      exact .there (fun e => hp (Prod.ext (pairV_inj e).1 (pairV_inj e).2)) ih
theorem ins_rel (m : PM) (k : Int × Int) (v : Int) : SetR (pairV k.1 k.2) (.v (.int .i64 v)) (keysM m) (valsM m) (keysM (insM m k v)) (valsM (insM m k v)) := by
  induction m with
  | nil => exact .nil
  | cons p m ih =>
    unfold insM
    by_cases hp : p.1 = k
    · rw [if_pos hp]
      subst hp
      exact .here
    · rw [if_neg hp]
      exact .there (fun e => hp (Prod.ext (pairV_inj e).1 (pairV_inj e).2)) ih
theorem mem_ins {m : PM} {k : Int × Int} {v : Int} {p : (Int × Int) × Int} (h : p ∈ insM m k v) : p = (k, v) ∨ p ∈ m := by
  induction m with
  | nil => simpa [insM] using h
  | cons q m ih =>
    unfold insM at h
    by_cases hq : q.1 = k
    · rw [if_pos hq] at h
      rcases List.mem_cons.1 h with h | h
      · exact .inl h
      · exact .inr (by simp [h])
    · rw [if_neg hq] at h
      rcases List.mem_cons.1 h with h | h
      · exact .inr (by simp [h])
      · exact (ih h).imp id (fun h => by simp [h])
theorem NodupM.ins {m : PM} (h : NodupM m) (k : Int × Int) (v : Int) : NodupM (insM m k v) := by
  unfold NodupM at *
  induction m with
  | nil => simp [insM]
  | cons q m ih =>
    simp only [List.map_cons, List.nodup_cons] at h
    unfold insM
    by_cases hq : q.1 = k
    · rw [if_pos hq]
      subst hq
      simp only [List.map_cons, List.nodup_cons]
      exact h
    · rw [if_neg hq]
      simp only [List.map_cons, List.nodup_cons]
      refine ⟨fun hm => ?_, ih h.2⟩
      simp only [List.mem_map] at hm
      obtain ⟨p, hp, he⟩ := hm
      rcases mem_ins hp with h1 | h1
      · subst h1; exact hq he.symm
      · exact h.1 (List.mem_map.2 ⟨p, h1, he⟩)
theorem look_mem {m : PM} {k : Int × Int} {n : Int} (h : look m k = some n) : (k, n) ∈ m := by
  induction m with
  | nil => simp [look] at h
  | cons p m ih =>
    unfold look at h
    by_cases hp : p.1 = k
    · rw [if_pos hp] at h; cases h; subst hp; simp
    · rw [if_neg hp] at h; exact List.mem_cons_of_mem _ (ih h)
theorem look_ins (m : PM) (k k' : Int × Int) (v : Int) : look (insM m k v) k' = if k = k' then some v else look m k' := by
  induction m with
  | nil => simp [insM, look]
  | cons p m ih =>
    unfold insM
    by_cases hp : p.1 = k
    · rw [if_pos hp]
      subst hp
      simp only [look]
      by_cases hk : p.1 = k' <;> simp [hk]
    · rw [if_neg hp]
      simp only [look, ih]
      by_cases hk : p.1 = k'
      · have : ¬ k = k' := fun e => hp (hk.trans e.symm)
        simp [hk, this]
      · simp [hk]

section
variable {P : Program} {H : Hp} {env : Env} {dst : Option Tmp} {ty : TypeId} {pos : String} {af : Array Edge} {gd : Option (Nat × Bool)}
theorem pure_look {x y : Operand} {t kt et g : Nat} {m : PM} {a b : Int} (ht : MapT P t kt et (.int .i64 0) isPair) (hx : opD env x = some (.v (.map (some g)))) (hy : opD env y = some (.agg [.v (.int .i64 a), .v (.int .i64 b)]))
    (hnd : NodupM m) (hm : Blk.mp g (keysM m) (valsM m) ∈ H) :
    Pure P H ⟨dst, .lookup t x y true, ty, pos, af, gd⟩ env (.tup [.v (.int .i64 ((look m (a, b)).getD 0)), .v (.bool (look m (a, b)).isSome)]) := by
  have := pure_lookup_ok (dst := dst) (ty := ty) (pos := pos) (af := af) (gd := gd) ht hx hy (.agg _ [.int .i64 a, .int .i64 b] rfl) ⟨a, b, rfl⟩ (keysM_good m) hnd.keys hm (look_rel m (a, b))
  cases h : look m (a, b) <;> simpa [h] using this
theorem pure_look_data {x y : Operand} {t kt et : Nat} {m : PM} {a b : Int} (ht : MapT P t kt et (.int .i64 0) isPair) (hx : opD env x = some (.mp (keysM m) (valsM m))) (hy : opD env y = some (.agg [.v (.int .i64 a), .v (.int .i64 b)]))
    (hnd : NodupM m) :
    Pure P H ⟨dst, .lookup t x y true, ty, pos, af, gd⟩ env (.tup [.v (.int .i64 ((look m (a, b)).getD 0)), .v (.bool (look m (a, b)).isSome)]) := by
  have := pure_lookup_ok_data (H := H) (dst := dst) (ty := ty) (pos := pos) (af := af) (gd := gd) ht hx hy (.agg _ [.int .i64 a, .int .i64 b] rfl) ⟨a, b, rfl⟩ (keysM_good m) hnd.keys (look_rel m (a, b))
  cases h : look m (a, b) <;> simpa [h] using this
end

section
variable {K : Ctx} {Q : Exit → Env → Hp → Prop} {env : Env} {H H' : Hp} {ops : Array Oper} {rest : List Oper} {ty : TypeId} {pos : String} {af : Array Edge}
theorem TL.insert {T kt et g : Nat} {x y v : Operand} {m : PM} {a b n : Int} (ht : MapT K.P T kt et (.int .i64 0) isPair) (hx : opD env x = some (.v (.map (some g)))) (hy : opD env y = some (.agg [.v (.int .i64 a), .v (.int .i64 b)])) (hv : opD env v = some (.v (.int .i64 n)))
    (hnd : NodupM m) (hu : UpdR (.mp g (keysM m) (valsM m)) (.mp g (keysM (insM m (a, b) n)) (valsM (insM m (a, b) n))) H H')
    (h : TL K ops rest Q env H') : TL K ops (⟨none, .mapUpdate T x y v, ty, pos, af, none⟩ :: rest) Q env H :=
  TL.mapUpdate ht hx hy hv (.agg _ [.int .i64 a, .int .i64 b] rfl) ⟨a, b, rfl⟩ (keysM_good m) hnd.keys (ins_rel m (a, b) n) hu h
end
end Go.Ob
