import Derived.Test.YtlhjcleejolbiaaZa
set_option linter.unusedVariables false
set_option linter.unusedSimpArgs false
set_option linter.unnecessarySimpa false
/- The rules in the form in which the printed walks use them. -/
set_option linter.unusedVariables false
set_option linter.unusedSimpArgs false
set_option linter.unusedSectionVars false
namespace Go.Ob
open Go.RowKit
theorem mkI64 {n : Int} (h1 : -9223372036854775808 ≤ n) (h2 : n ≤ 9223372036854775807) : I64 n := ⟨h1, h2⟩
inductive Agree (env : Env) : List (Nat × D) → Prop where
  | nil : Agree env []
  | cons {t : Nat} {d : D} {l : List (Nat × D)} : env t = some d → Agree env l → Agree env ((t, d) :: l)
theorem Agree.mem {env : Env} {l : List (Nat × D)} (h : Agree env l) : ∀ p ∈ l, env p.1 = some p.2 := by
  induction h with
  | nil => intro p hp; cases hp
  | cons h1 h2 ih => intro p hp; rcases List.mem_cons.1 hp with rfl | hp
                     · exact h1
                     · exact ih p hp
structure At (env : Env) (H : Hp) (l : List (Nat × D)) (h : Hp) : Prop where
  slots : Agree env l
  heap : h.Sublist H
section
variable {K : Ctx} {Q : Exit → Env → Hp → Prop} {env : Env} {H : Hp} {ops : Array Oper} {rest : List Oper} {t : Nat} {ty : TypeId} {pos : String} {af : Array Edge} {op : Op} {d : D}
theorem TL.run1 (hp : Pure K.P H ⟨some t, op, ty, pos, af, none⟩ env d) (hd : Nat.blt t K.n = true) (h : TL K ops rest Q (env.put t (some d)) H) :
    TL K ops (⟨some t, op, ty, pos, af, none⟩ :: rest) Q env H :=
  TL.run (o := ⟨some t, op, ty, pos, af, none⟩) rfl hp (fun t' e => by cases e; simpa [Nat.blt_eq] using hd) h
theorem TL.runG {j gt : Nat} {b : Bool} (hg : (ops[j]?).bind (·.dst) = some gt) (hb : env gt = some (.v (.bool b))) (hp : Pure K.P H ⟨some t, op, ty, pos, af, some (j, b)⟩ env d) (hd : Nat.blt t K.n = true)
    (h : TL K ops rest Q (env.put t (some d)) H) : TL K ops (⟨some t, op, ty, pos, af, some (j, b)⟩ :: rest) Q env H :=
  TL.run (o := ⟨some t, op, ty, pos, af, some (j, b)⟩) ⟨gt, .bool b, hg, hb, by cases b <;> rfl⟩ hp (fun t' e => by cases e; simpa [Nat.blt_eq] using hd) h
theorem TL.passG {j gt : Nat} {b : Bool} {x : Value} (hg : (ops[j]?).bind (·.dst) = some gt) (hb : env gt = some (.v x)) (hx : boolIs x b = false) (hd : Nat.blt t K.n = true)
    (h : TL K ops rest Q (env.put t (some (.v undef))) H) : TL K ops (⟨some t, op, ty, pos, af, some (j, b)⟩ :: rest) Q env H :=
  TL.pass (o := ⟨some t, op, ty, pos, af, some (j, b)⟩) ⟨gt, x, hg, hb, hx.symm⟩ (fun t' e => by cases e; simpa [Nat.blt_eq] using hd) h
theorem TD.run1 (hp : Pure K.P H ⟨some t, op, ty, pos, af, none⟩ env d) (hd : Nat.blt t K.n = true) (h : TD K ops rest Q (env.put t (some d)) H) :
    TD K ops (⟨some t, op, ty, pos, af, none⟩ :: rest) Q env H :=
  TD.run (o := ⟨some t, op, ty, pos, af, none⟩) rfl hp (fun t' e => by cases e; simpa [Nat.blt_eq] using hd) h
theorem TD.runG {j gt : Nat} {b : Bool} (hg : (ops[j]?).bind (·.dst) = some gt) (hb : env gt = some (.v (.bool b))) (hp : Pure K.P H ⟨some t, op, ty, pos, af, some (j, b)⟩ env d) (hd : Nat.blt t K.n = true)
    (h : TD K ops rest Q (env.put t (some d)) H) : TD K ops (⟨some t, op, ty, pos, af, some (j, b)⟩ :: rest) Q env H :=
  TD.run (o := ⟨some t, op, ty, pos, af, some (j, b)⟩) ⟨gt, .bool b, hg, hb, by cases b <;> rfl⟩ hp (fun t' e => by cases e; simpa [Nat.blt_eq] using hd) h
theorem TD.passG {j gt : Nat} {b : Bool} {x : Value} (hg : (ops[j]?).bind (·.dst) = some gt) (hb : env gt = some (.v x)) (hx : boolIs x b = false) (hd : Nat.blt t K.n = true)
    (h : TD K ops rest Q (env.put t (some (.v undef))) H) : TD K ops (⟨some t, op, ty, pos, af, some (j, b)⟩ :: rest) Q env H :=
  TD.pass (o := ⟨some t, op, ty, pos, af, some (j, b)⟩) ⟨gt, x, hg, hb, hx.symm⟩ (fun t' e => by cases e; simpa [Nat.blt_eq] using hd) h
theorem Env.put_id {t : Nat} {d : D} (h : env t = some d) : env.put t (some d) = env := by
  funext t'
  by_cases ht : t' = t
  · subst ht; rw [Env.put_same, h]
  · rw [Env.put_other ht]
theorem TL.split {l : List Oper} {b : Bool} (g : Nat) (hb : env g = some (.v (.bool b))) (h1 : b = true → TL K ops l Q (env.put g (some (.v (.bool true)))) H)
    (h2 : b = false → TL K ops l Q (env.put g (some (.v (.bool false)))) H) : TL K ops l Q env H := by
  cases b with
  | true => rw [← Env.put_id hb]; exact h1 rfl
  | false => rw [← Env.put_id hb]; exact h2 rfl
theorem TD.split {l : List Oper} {b : Bool} (g : Nat) (hb : env g = some (.v (.bool b))) (h1 : b = true → TD K ops l Q (env.put g (some (.v (.bool true)))) H)
    (h2 : b = false → TD K ops l Q (env.put g (some (.v (.bool false)))) H) : TD K ops l Q env H := by
  cases b with
  | true => rw [← Env.put_id hb]; exact h1 rfl
  | false => rw [← Env.put_id hb]; exact h2 rfl
theorem TL.splitP {l : List Oper} {p : Prop} [Decidable p] (g : Nat) (hb : env g = some (.v (.bool (decide p)))) (h1 : p → TL K ops l Q (env.put g (some (.v (.bool true)))) H)
    (h2 : ¬ p → TL K ops l Q (env.put g (some (.v (.bool false)))) H) : TL K ops l Q env H :=
  TL.split g hb (fun h => h1 (of_decide_eq_true h)) (fun h => h2 (of_decide_eq_false h))
theorem TD.splitP {l : List Oper} {p : Prop} [Decidable p] (g : Nat) (hb : env g = some (.v (.bool (decide p)))) (h1 : p → TD K ops l Q (env.put g (some (.v (.bool true)))) H)
    (h2 : ¬ p → TD K ops l Q (env.put g (some (.v (.bool false)))) H) : TD K ops l Q env H :=
  TD.split g hb (fun h => h1 (of_decide_eq_true h)) (fun h => h2 (of_decide_eq_false h))
theorem TC.condD {x : Operand} {c c' : Code} {p : Prop} {inst : Decidable p} (hb : opD env x = some (.v (.bool (@decide p inst)))) (h1 : p → TC K c Q env H) (h2 : ¬ p → TC K c' Q env H) :
    TC K (.cond x c c') Q env H := TC.cond hb (fun h => h1 (of_decide_eq_true h)) (fun h => h2 (of_decide_eq_false h))
theorem TC.condN {x : Operand} {c c' : Code} {p : Prop} {inst : Decidable p} (hb : opD env x = some (.v (.bool (!(@decide p inst))))) (h1 : ¬ p → TC K c Q env H) (h2 : p → TC K c' Q env H) :
    TC K (.cond x c c') Q env H := TC.cond hb (fun h => h1 (by simpa using h)) (fun h => h2 (by simpa using h))
theorem TC.skip' {c : Code} (h : TC K c Q env H) : TC K .skip (thenA K c Q) env H := TC.skip h
theorem then_normal {c : Code} (h : TC K c Q env H) : thenA K c Q .normal env H := h
theorem then_exit {c : Code} {i : Nat} (h : Q (.exit i) env H) : thenA K c Q (.exit i) env H := h
theorem then_ret {c : Code} (h : Q .ret env H) : thenA K c Q .ret env H := h
theorem block_normal {i : Nat} (h : Q .normal env H) : blockA i Q .normal env H := h
theorem block_ret {i : Nat} (h : Q .ret env H) : blockA i Q .ret env H := h
theorem block_here {i : Nat} (h : Q .normal env H) : blockA i Q (.exit i) env H := by simp only [blockA, if_true]; exact h
theorem block_past {i j : Nat} (hne : Nat.beq j i = false) (h : Q (.exit j) env H) : blockA i Q (.exit j) env H := by
  have : j ≠ i := fun e => by subst e; rw [Nat.beq_refl] at hne; cases hne
  simp only [blockA, if_neg this]; exact h
theorem TC.at {c : Code} {l : List (Nat × D)} {h : Hp} (ha : At env H l h) (hc : TC K c Q (Env.of l) h) : TC K c Q env H := TC.slots l h ha.slots.mem ha.heap hc
def loopX {X : Type} (l : X → List (Nat × D)) (h : X → Hp) (inv : X → Prop) (μ : X → Nat) (Q : Exit → Env → Hp → Prop) (x : X) : Exit → Env → Hp → Prop
  | .normal, env, H => ∃ x', At env H (l x') (h x') ∧ inv x' ∧ μ x' < μ x
  | e, env, H => Q e env H
theorem TC.loopX {X : Type} {c : Code} (l : X → List (Nat × D)) (h : X → Hp) (inv : X → Prop) (μ : X → Nat) (x0 : X) (h0 : At env H (l x0) (h x0)) (hi : inv x0)
    (hstep : ∀ x, inv x → TC K c (loopX l h inv μ Q x) (Env.of (l x)) (h x)) : TC K (.loop c) Q env H := by
  refine TC.loop (fun n env H => ∃ x, At env H (l x) (h x) ∧ inv x ∧ n = μ x) (μ x0) ⟨x0, h0, hi, rfl⟩ fun n env H ⟨x, ha, hx, hn⟩ => ?_
  refine TC.at ha ((hstep x hx).mono fun e env' H' hq => ?_)
  subst hn
  cases e with
  | normal => obtain ⟨x', ha', hi', hm⟩ := hq; exact ⟨_, hm, x', ha', hi', rfl⟩
  | _ => exact hq
theorem loop_next {X : Type} {l : X → List (Nat × D)} {h : X → Hp} {inv : X → Prop} {μ : X → Nat} {x : X} (x' : X) (ha : At env H (l x') (h x')) (hi : inv x') (hm : μ x' < μ x) :
    loopX l h inv μ Q x .normal env H := ⟨x', ha, hi, hm⟩
theorem loop_exit {X : Type} {l : X → List (Nat × D)} {h : X → Hp} {inv : X → Prop} {μ : X → Nat} {x : X} {i : Nat} (hq : Q (.exit i) env H) : loopX l h inv μ Q x (.exit i) env H := hq
theorem loop_ret {X : Type} {l : X → List (Nat × D)} {h : X → Hp} {inv : X → Prop} {μ : X → Nat} {x : X} (hq : Q .ret env H) : loopX l h inv μ Q x .ret env H := hq
theorem ret1 {P : Program} {t : Nat} {r d : D} {e : Exit} (he : e = .ret ∨ e = .normal) (hr : env t = some d) (h : d = r) : RetA P [ResultVar.tmp t].toArray (fun r' H' => r' = r ∧ H' = []) e env H :=
  ⟨he, [d], .tmp hr .nil, [], List.nil_sublist _, h, rfl⟩
theorem ret_int {P : Program} {t : Nat} {k : IntKind} {a b : Int} (hr : env t = some (.v (.int k a))) (h : a = b) : RetA P [ResultVar.tmp t].toArray (fun r' H' => r' = .v (.int k b) ∧ H' = []) .ret env H :=
  ret1 (.inl rfl) hr (by rw [h])
theorem ret_bool {P : Program} {t : Nat} {a b : Bool} (hr : env t = some (.v (.bool a))) (h : a = b) : RetA P [ResultVar.tmp t].toArray (fun r' H' => r' = .v (.bool b) ∧ H' = []) .ret env H :=
  ret1 (.inl rfl) hr (by rw [h])
theorem ret_sl {P : Program} {t es : Nat} {a b : List (List D)} (hr : env t = some (.sl es a)) (h : a = b) : RetA P [ResultVar.tmp t].toArray (fun r' H' => r' = .sl es b ∧ H' = []) .ret env H :=
  ret1 (.inl rfl) hr (by rw [h])
end
theorem Fun.enter {P : Program} {f n : Nat} {fn : Func} {c : Code} {ds : List D} {r : D} {rs : List ResultVar} (hf : P.funcs[f]? = some fn) (hb : fn.body = some c) (hn : fn.ntmps = n) (hr : fn.results = rs.toArray) (hl : Nat.ble ds.length n = true)
    (h : ∀ w F, TC ⟨P, n, w, F, own [], none⟩ c (RetA P rs.toArray (fun r' H' => r' = r ∧ H' = [])) (Env.args 0 ds) []) : Fun P f ds r := by
  subst hn
  exact Fun.of_body hf hb (by simpa using hl) (by rw [hr]; exact h)
end Go.Ob
/- More operations: rows that a call grows, read; parts of slices; values built; cuts at guarded regions. -/
set_option linter.unusedVariables false
set_option linter.unusedSimpArgs false
set_option linter.unusedSectionVars false
namespace Go.Ob
open Go.RowKit
def Same (ts : List Nat) (env env' : Env) : Prop := ∀ t, ts.any (Nat.beq t) = false → env' t = env t
def Env.without (ts : List Nat) (env : Env) : Env := fun t => bif ts.any (Nat.beq t) then none else env t
theorem Same.refl (ts : List Nat) (env : Env) : Same ts env env := fun _ _ => rfl
theorem Same.put {ts : List Nat} {env env' : Env} {t : Nat} {od : Option D} (ht : ts.any (Nat.beq t) = true) (h : Same ts env env') : Same ts env (env'.put t od) := fun t' h' => by
  have hne : t' ≠ t := fun e => by subst e; rw [ht] at h'; cases h'
  rw [Env.put_other hne]
  exact h t' h'
section
variable {K : Ctx} {Q : Exit → Env → Hp → Prop} {env : Env} {H : Hp}
def cutQ (ts : List Nat) (tq : Nat) (p : Prop) (env : Env) (H : Hp) (e : Exit) (env' : Env) (H' : Hp) : Prop :=
  e = .normal ∧ H' = H ∧ Same ts env env' ∧ ∃ b, env' tq = some (.v (.bool b)) ∧ (b = true ↔ p)
theorem cut_view {c : Code} {ts : List Nat} {tq : Nat} {p : Prop} [Decidable p] {env' : Env} (hs : Same ts env env') {b : Bool} (hb : env' tq = some (.v (.bool b))) (hp : b = true ↔ p)
    (h' : TC K c Q ((env.without ts).put tq (some (.v (.bool (decide p))))) H) : TC K c Q env' H := by
  refine TC.forget (fun t d hd => ?_) (List.Sublist.refl _) h'
  rcases Env.put_some hd with ⟨rfl, ho⟩ | ⟨hne, ho⟩
  · injection ho with ho
    subst ho
    rw [hb]
    have : b = decide p := by cases b <;> simp_all
    rw [this]
  · unfold Env.without at ho
    cases ha : ts.any (Nat.beq t) with
    | true => rw [ha] at ho; cases ho
    | false => rw [ha] at ho; rw [hs t ha]; exact ho
theorem TC.regionCut {id : Nat} {l : List Oper} {c : Code} (ts : List Nat) (tq : Nat) (p : Prop) [Decidable p] (h : TL K l.toArray l (cutQ ts tq p env H) env H)
    (h' : TC K c Q ((env.without ts).put tq (some (.v (.bool (decide p))))) H) : TC K (.seq (.region id l.toArray false) c) Q env H :=
  TC.seq (TC.mono (TC.region h) fun e env' H' ⟨he, hH, hs, b, hb, hp⟩ => by subst he; subst hH; exact cut_view hs hb hp h')
theorem TC.drawCut {id : Nat} {l : List Oper} {c : Code} (ts : List Nat) (tq : Nat) (p : Prop) [Decidable p] (hm : K.P.follows .mixedOrders = true) (hB : Region.lexB .any l.toArray = true)
    (h : TD K l.toArray l (cutQ ts tq p env H) env H) (h' : TC K c Q ((env.without ts).put tq (some (.v (.bool (decide p))))) H) : TC K (.seq (.region id l.toArray true) c) Q env H :=
  TC.seq (TC.mono (TC.draw hm hB h) fun e env' H' ⟨he, hH, hs, b, hb, hp⟩ => by subst he; subst hH; exact cut_view hs hb hp h')
theorem TL.cutEnd {ops : Array Oper} {ts : List Nat} {tq : Nat} {p : Prop} {env0 : Env} {b : Bool} (hs : Same ts env0 env) (hb : env tq = some (.v (.bool b))) (hp : b = true ↔ p) : TL K ops [] (cutQ ts tq p env0 H) env H :=
  TL.nil ⟨rfl, rfl, hs, b, hb, hp⟩
theorem TD.cutEnd {ops : Array Oper} {ts : List Nat} {tq : Nat} {p : Prop} {env0 : Env} {b : Bool} (hs : Same ts env0 env) (hb : env tq = some (.v (.bool b))) (hp : b = true ↔ p) : TD K ops [] (cutQ ts tq p env0 H) env H :=
  TD.nil (Q := cutQ ts tq p env0 H) ⟨rfl, rfl, hs, b, hb, hp⟩
end
section
variable {P : Program} {H : Hp} {env : Env} {dst : Option Tmp} {ty : TypeId} {pos : String} {af : Array Edge} {gd : Option (Nat × Bool)}
theorem row_shape {w : World} {o : Nat → Prop} {v : Value} {e es : Nat} {xs : List (List D)} (h : (Blk.row v e es xs).ok w o) : ∃ a c, v = .slice a xs.length c := by
  obtain ⟨vals, ho, _⟩ := h
  rcases ho.2 with ⟨rfl, hn⟩ | ⟨g, cap, cur, rfl, _⟩
  · exact ⟨none, 0, by rw [hn]⟩
  · exact ⟨_, _, rfl⟩
theorem pure_len_row {x : Operand} {t e' es' e es : Nat} {v : Value} {xs : List (List D)} (ht : SliceT P t e' es') (hx : opD env x = some (.v v)) (hm : Blk.row v e es xs ∈ H) :
    Pure P H ⟨dst, .call { callee := .builtin .len, args := #[x], argTypes := #[t] }, ty, pos, af, gd⟩ env (.v (.int .i64 xs.length)) := pure_of fun w _ ρ hh h => by
  have e1 := Rep.of_v (h x (by simp [Op.operands, Call.operands]) _ hx)
  obtain ⟨a, c, hv⟩ := row_shape (hh.each _ hm)
  exact ⟨_, by simp [execOp, resolve, invoke, builtin, Builtin.len_, run_underlying ht.under, e1, hv, goInt], .v _⟩
theorem pure_len_nil {x : Operand} {t e' es' : Nat} (ht : SliceT P t e' es') (hx : opD env x = some (.v (.slice none 0 0))) :
    Pure P H ⟨dst, .call { callee := .builtin .len, args := #[x], argTypes := #[t] }, ty, pos, af, gd⟩ env (.v (.int .i64 0)) := pure_of fun w _ ρ hh h => by
  have e1 := Rep.of_v (h x (by simp [Op.operands, Call.operands]) _ hx)
  exact ⟨_, by simp [execOp, resolve, invoke, builtin, Builtin.len_, run_underlying ht.under, e1, goInt], .v _⟩
inductive FillR (place : Nat → Option (Nat × Nat)) (env : Env) : List (Nat × Operand) → List D → List D → Prop where
  | nil (cs : List D) : FillR place env [] cs cs
  | cons {i off size : Nat} {x : Operand} {d : D} {ds cs cs' cs'' : List D} {ps : List (Nat × Operand)} : place i = some (off, size) → opD env x = some d → CellsD d ds → ds.length = size →
      PutR off ds cs cs' → FillR place env ps cs' cs'' → FillR place env ((i, x) :: ps) cs cs''
theorem zip_fold (vs : Array Value) (off : Nat) : ∀ (l : List Value) (k : Nat) (cs : Array Value), off + k + l.length ≤ cs.size →
    ((l.zipIdx k).foldl (fun cs (c, j) => cs.setIfInBounds (off + j) c) cs).toList = cs.toList.take (off + k) ++ l ++ cs.toList.drop (off + k + l.length)
  | [], k, cs, _ => by simp
  | v :: l, k, cs, h => by
    simp only [List.zipIdx_cons, List.foldl_cons]
    rw [zip_fold vs off l (k + 1) _ (by rw [Array.size_setIfInBounds]; rw [List.length_cons] at h; omega)]
    have hlt : off + k < cs.size := by rw [List.length_cons] at h; omega
    have e0 : (cs.setIfInBounds (off + k) v).toList = cs.toList.set (off + k) v := by simp
    rw [e0]
    have e1 : off + (k + 1) = off + k + 1 := by omega
    rw [e1, List.take_set, List.drop_set_of_lt (by omega)]
    have e2 : List.take (off + k + 1) cs.toList = List.take (off + k) cs.toList ++ [cs.toList[off + k]'(by simpa using hlt)] := by
      rw [List.take_succ_eq_append_getElem (by simpa using hlt)]
    rw [e2, List.set_append_right _ _ (by rw [List.length_take]; omega)]
    have e3 : off + k - (List.take (off + k) cs.toList).length = 0 := by rw [List.length_take, Array.length_toList]; omega
    rw [e3]
    simp only [List.set_cons_zero, List.length_cons, List.append_assoc, List.cons_append, List.nil_append]
    rw [show off + k + 1 + l.length = off + k + (l.length + 1) by omega]
theorem run_fill {place : Nat → Option (Nat × Nat)} {w : World} {o : Nat → Prop} {ρ : Operand → Value} {ps : List (Nat × Operand)} {cs cs' : List D} (h : FillR place env ps cs cs')
    (hx : ∀ p ∈ ps, ∀ dx, opD env p.2 = some dx → Rep w o dx (ρ p.2)) : ∀ (vs : Array Value), vs.size = cs.length → (∀ (j : Nat) (d : D) (u : Value), cs[j]? = some d → vs[j]? = some u → u.oneCell' = true ∧ Rep w o d u) →
      ∃ us, Instr.fill place vs (ps.map fun (i, x) => (i, ρ x)) = some us ∧ us.size = cs'.length ∧ ∀ (j : Nat) (d : D) (u : Value), cs'[j]? = some d → us[j]? = some u → u.oneCell' = true ∧ Rep w o d u := by
  induction h with
  | nil cs => exact fun vs hs hj => ⟨vs, rfl, hs, hj⟩
  | @cons i off size x d ds cs cs' cs'' ps hp hxd hc hl hput _ ih =>
    intro vs hs hj
    obtain ⟨c1, c2⟩ := hc.rep (hx (i, x) (by simp) d hxd)
    obtain ⟨p1, p2⟩ := hput.spec
    have hsz : (ρ x).cells.size = size := by rw [c1, hl]
    have hfit : ¬ (off + (ρ x).cells.size > vs.size) := by rw [c1, hs]; omega
    have hz := zip_fold vs off (ρ x).cells.toList 0 vs (by rw [Array.length_toList, c1, hs]; simpa using p1)
    obtain ⟨us, h1, h2, h3⟩ := ih (fun p hp => hx p (by simp [hp])) ((ρ x).cells.zipIdx.foldl (fun cs (c, j) => cs.setIfInBounds (off + j) c) vs) (by
      have := congrArg List.length hz
      rw [← Array.foldl_toList, Array.toList_zipIdx]
      rw [← Array.length_toList, this, p2]
      simp only [List.length_append, List.length_take, List.length_drop, Array.length_toList, c1, hs, Nat.add_zero]) (fun j d' u' hd' hu' => by
      have hu'' : (vs.toList.take off ++ (ρ x).cells.toList ++ vs.toList.drop (off + ds.length))[j]? = some u' := by
        have e4 : off + 0 + (ρ x).cells.toList.length = off + ds.length := by rw [Array.length_toList, c1]; omega
        rw [e4, Nat.add_zero] at hz
        rw [← hz, ← Array.toList_zipIdx, Array.foldl_toList]
        simpa using hu'
      rw [p2] at hd'
      have hlen : (ρ x).cells.toList.length = ds.length := by rw [Array.length_toList]; exact c1
      have ho : off ≤ vs.toList.length := by rw [Array.length_toList, hs]; omega
      have e3 : min off cs.length = off := by omega
      have e4 : min off vs.toList.length = off := by omega
      by_cases q1 : j < off
      · rw [List.append_assoc, List.getElem?_append_left (by rw [List.length_take]; omega), List.getElem?_take_of_lt q1] at hd' hu''
        exact hj j d' u' hd' (by rw [← toList_getElem?]; exact hu'')
      · by_cases q2 : j < off + ds.length
        · rw [List.append_assoc, List.getElem?_append_right (by rw [List.length_take]; omega), List.getElem?_append_left (by rw [List.length_take]; omega)] at hd'
          rw [List.append_assoc, List.getElem?_append_right (by rw [List.length_take]; omega), List.getElem?_append_left (by rw [List.length_take, hlen]; omega)] at hu''
          rw [List.length_take, e3] at hd'
          rw [List.length_take, e4] at hu''
          exact c2 _ d' u' hd' (by rw [← toList_getElem?]; exact hu'')
        · rw [List.getElem?_append_right (by simp only [List.length_append, List.length_take]; omega), List.getElem?_drop] at hd'
          rw [List.getElem?_append_right (by simp only [List.length_append, List.length_take, hlen]; omega), List.getElem?_drop] at hu''
          simp only [List.length_append, List.length_take, e3, e4, hlen] at hd' hu''
          exact hj _ d' u' hd' (by rw [← toList_getElem?]; exact hu''))
    refine ⟨us, ?_, h2, h3⟩
    simp only [List.map_cons, Instr.fill, hp]
    rw [if_neg (by rw [hsz]; simp; rw [← hsz]; omega)]
    exact h1
structure PlacesT (P : Program) (t : Nat) (pl : List (Nat × Nat)) : Prop where
  places : ∃ fs, P.underlying t = some (.struct fs) ∧ ∀ w, (fs.mapM (fun f => do pure (f.offset, ← sizeOf f.type) : Field → Sem (Nat × Nat))).run P w = .ok pl.toArray w
theorem pure_build {t : Nat} {ps : Array (Nat × Operand)} {pl : List (Nat × Nat)} {zs : List Value} {cs : List D} (hp : PlacesT P t pl) (hz : ZeroT P t zs) (hf : FillR (fun (i : Nat) => pl[i]?) env ps.toList (zs.map .v) cs) :
    Pure P H ⟨dst, .build t ps, ty, pos, af, gd⟩ env (.agg cs) := pure_of fun w F ρ hh hx => by
  obtain ⟨fs, hu, hpl⟩ := hp.places
  obtain ⟨z, hzr, hzc⟩ := hz.zero
  obtain ⟨us, h1, h2, h3⟩ := run_fill (w := w) (o := both F H) (ρ := ρ) hf (fun p hp dx hd => hx p.2 (by
      simp only [Op.operands]
      have : p.2 ∈ ps.toList.map (·.2) := List.mem_map.2 ⟨p, hp, rfl⟩
      simpa using this) dx hd) zs.toArray (by simp) (fun j d u hd hu => by
      simp only [List.getElem?_map, Option.map_eq_some_iff] at hd
      obtain ⟨v, hv, rfl⟩ := hd
      have : v = u := by simpa [hv] using hu
      subst this
      exact ⟨List.all_eq_true.1 hz.one v (List.mem_of_getElem? hv), .v _⟩)
  refine ⟨.agg us, ?_, .agg cs us h2 (fun j u hu => ?_) (fun j d u hd hu => (h3 j d u hd hu).2)⟩
  · have e1 : (Array.map (fun x => match x with | (i, x) => (i, ρ x)) ps).toList = ps.toList.map fun (i, x) => (i, ρ x) := by simp
    simp only [execOp, Instr.build, Sem.run_bind, hzr, Result.andThen_ok, run_underlying hu, hpl, hzc, e1]
    have e2 : (fun (i : Nat) => pl.toArray[i]?) = (fun (i : Nat) => pl[i]?) := by funext i; simp
    rw [e2, h1]
    rfl
  · have hlt : j < cs.length := by rw [← h2]; exact (Array.getElem?_eq_some_iff.1 hu).1
    exact (h3 j _ u (List.getElem?_eq_getElem hlt) hu).1
end
end Go.Ob
/- What is made becomes data; maps; comparisons of structs; slices and strings built and read; elements of a row written. -/
set_option linter.unusedVariables false
set_option linter.unusedSimpArgs false
set_option linter.unusedSectionVars false
namespace Go.Ob
open Go.RowKit
inductive FrzR (M : Blk → Prop) : D → D → Prop where
  | same (d : D) : FrzR M d d
  | agg (ds ds' : List D) : ds.length = ds'.length → (∀ (j : Nat) (d d' : D), ds[j]? = some d → ds'[j]? = some d' → FrzR M d d') → FrzR M (.agg ds) (.agg ds')
  | tup (ds ds' : List D) : ds.length = ds'.length → (∀ (j : Nat) (d d' : D), ds[j]? = some d → ds'[j]? = some d' → FrzR M d d') → FrzR M (.tup ds) (.tup ds')
  | fn (f : Nat) (ds ds' : List D) : ds.length = ds'.length → (∀ (j : Nat) (d d' : D), ds[j]? = some d → ds'[j]? = some d' → FrzR M d d') → FrzR M (.fn f ds) (.fn f ds')
  | row (v : Value) (e es : Nat) (xs xs' : List (List D)) : M (.row v e es xs) → 0 < es → xs.length = xs'.length → (∀ x ∈ xs', x.length = es) →
      (∀ (j : Nat) (d d' : D), xs.flatten[j]? = some d → xs'.flatten[j]? = some d' → FrzR M d d') → FrzR M (.v v) (.sl es xs')
  | mp (g : Nat) (ks : List Value) (ds ds' : List D) : M (.mp g ks ds) → ds.length = ds'.length → (∀ (j : Nat) (d d' : D), ds[j]? = some d → ds'[j]? = some d' → FrzR M d d') → FrzR M (.v (.map (some g))) (.mp ks ds')
  | box (g t o : Nat) (cs cs' ds : List D) : M (.box g t cs) → DropR o cs cs' → cs' ≠ [] → cs'.length = ds.length → (∀ (j : Nat) (d d' : D), cs'[j]? = some d → ds[j]? = some d' → FrzR M d d') → FrzR M (.v (.pointer (some ⟨g, o, none⟩))) (.at_ ds)
theorem row_data' {w : World} {o o' : Nat → Prop} {v : Value} {e es : Nat} {xs xs' : List (List D)} (hes : 0 < es) (hok : (Blk.row v e es xs).ok w o) (hF : ∀ g, v.ownBlock = some g → ¬ o' g)
    (hl : xs.length = xs'.length) (he' : ∀ x ∈ xs', x.length = es)
    (hr : ∀ (j : Nat) (d d' : D) (u : Value), xs.flatten[j]? = some d → xs'.flatten[j]? = some d' → Rep w o d u → Rep w o' d' u) : Rep w o' (.sl es xs') v := by
  obtain ⟨vals, hown, hxe, hj⟩ := hok
  refine row_data (e := e) hes ⟨vals, by rw [← hl]; exact hown, he', fun j d' u hd' hu => ?_⟩ hF
  have hlt : j < xs'.flatten.length := (List.getElem?_eq_some_iff.1 hd').1
  have hlt2 : j < xs.flatten.length := by rw [flatten_len xs hxe, hl, ← flatten_len xs' he']; exact hlt
  obtain ⟨q1, q2⟩ := hj j _ u (List.getElem?_eq_getElem hlt2) hu
  exact ⟨q1, hr j _ d' u (List.getElem?_eq_getElem hlt2) hd' q2⟩
theorem frz_rep {w : World} {o o' : Nat → Prop} {M : Blk → Prop} (hM : ∀ b, M b → b.ok w o ∧ ∀ g, b.blk = some g → ¬ o' g) (ho : ∀ g, o' g → o g) {d d' : D} (h : FrzR M d d') :
    ∀ {u : Value}, Rep w o d u → Rep w o' d' u := by
  induction h with
  | same d => exact fun hr => hr.fewer ho
  | agg ds ds' hl hj ih =>
    intro u hr
    cases hr with
    | agg _ vs hs h1 hv =>
      refine .agg ds' vs (by omega) h1 fun j d' u hd' hu => ?_
      have hlt : j < ds.length := by rw [hl]; exact (List.getElem?_eq_some_iff.1 hd').1
      exact ih j _ d' (List.getElem?_eq_getElem hlt) hd' (hv j _ u (List.getElem?_eq_getElem hlt) hu)
  | tup ds ds' hl hj ih =>
    intro u hr
    cases hr with
    | tup _ vs hs hv =>
      refine .tup ds' vs (by omega) fun j d' u hd' hu => ?_
      have hlt : j < ds.length := by rw [hl]; exact (List.getElem?_eq_some_iff.1 hd').1
      exact ih j _ d' (List.getElem?_eq_getElem hlt) hd' (hv j _ u (List.getElem?_eq_getElem hlt) hu)
  | fn f ds ds' hl hj ih =>
    intro u hr
    cases hr with
    | fn _ _ vs hs hv =>
      refine .fn f ds' vs (by omega) fun j d' u hd' hu => ?_
      have hlt : j < ds.length := by rw [hl]; exact (List.getElem?_eq_some_iff.1 hd').1
      exact ih j _ d' (List.getElem?_eq_getElem hlt) hd' (hv j _ u (List.getElem?_eq_getElem hlt) hu)
  | row v e es xs xs' hm hes hl he' hj ih =>
    intro u hr
    rw [Rep.of_v hr]
    obtain ⟨hok, hF⟩ := hM _ hm
    exact row_data' hes hok hF hl he' fun j d d' u hd hd' hr => ih j d d' hd hd' hr
  | mp g ks ds ds' hm hl hj ih =>
    intro u hr
    rw [Rep.of_v hr]
    obtain ⟨⟨es, clock, hh, hs, hd, hk, hv⟩, hF⟩ := hM _ hm
    refine .mp ks ds' g es clock hh (hF g rfl) hs (by omega) hk fun j d' e hd' he => ?_
    have hlt : j < ds.length := by rw [hl]; exact (List.getElem?_eq_some_iff.1 hd').1
    exact ih j _ d' (List.getElem?_eq_getElem hlt) hd' (hv j _ e (List.getElem?_eq_getElem hlt) he)
  | box g t o cs cs' ds hm hd hne hl hj ih =>
    intro u hr
    rw [Rep.of_v hr]
    obtain ⟨⟨vs, hg, hs, hv⟩, hF⟩ := hM _ hm
    have hc : ∀ j d', ds[j]? = some d' → ∃ d u, cs'[j]? = some d ∧ cs[o + j]? = some d ∧ vs[o + j]? = some u := fun j d' hd' => by
      have hlt : j < cs'.length := by rw [hl]; exact (List.getElem?_eq_some_iff.1 hd').1
      have h1 : cs'[j]? = some cs'[j] := List.getElem?_eq_getElem hlt
      have h2 : cs[o + j]? = some cs'[j] := by rw [← hd.get]; exact h1
      have h3 : o + j < vs.size := by rw [hs]; exact (List.getElem?_eq_some_iff.1 h2).1
      exact ⟨_, vs[o + j], h1, h2, by simp [h3]⟩
    refine .at_ ds _ (fun j => vs.getD (o + j) undef) (fun e => hne (List.eq_nil_of_length_eq_zero (by rw [hl, e]; rfl))) (hF g rfl) (fun j d' hd' => ?_) (fun j d' hd' => ?_)
    · obtain ⟨d, u, h1, h2, h3⟩ := hc j d' hd'
      rw [own_add, cell_of_row w g (o + j) vs t (0, 0) hg]
      simp only [Array.getD_eq_getD_getElem?, h3, Option.getD_some]
      exact ⟨trivial, (hv _ _ _ h2 h3).1⟩
    · obtain ⟨d, u, h1, h2, h3⟩ := hc j d' hd'
      simp only [Array.getD_eq_getD_getElem?, h3, Option.getD_some]
      exact ih j d d' h1 hd' (hv _ _ _ h2 h3).2
def gone (H H' : Hp) (b : Blk) : Prop := b ∈ H ∧ ∀ x ∈ H', ∀ g, b.blk = some g → x.blk ≠ some g
section
variable {K : Ctx} {Q : Exit → Env → Hp → Prop} {env : Env} {H H' : Hp}
theorem Sat.frz {a : Act} {w : World} {env' : Env} (h : Sat K env H a w) (hs : H'.Sublist H) (he : ∀ t d', env' t = some d' → ∃ d, env t = some d ∧ FrzR (gone H H') d d') : Sat K env' H' a w := by
  have h1 : Sat K env H' a w := h.forget (fun _ _ h => h) hs
  refine ⟨fun t d' hd' => ?_, h1.size, h1.defers, h1.heap, h1.kept, h1.fresh, h1.foreign⟩
  obtain ⟨d, hd, hf⟩ := he t d' hd'
  obtain ⟨u, hu, hr⟩ := h.tmps t d hd
  refine ⟨u, hu, frz_rep (fun b hb => ⟨h.heap.each b hb.1, fun g hg hx => ?_⟩) (fun g => both_mono fun _ => (hs.subset ·)) hf hr⟩
  rcases hx with hF | ⟨x, hx, hxg⟩
  · exact (h.F_lt g hF).2 ⟨b, hb.1, hg⟩
  · exact hb.2 x hx g hg hxg
theorem TC.frz {c : Code} {d d' : D} (t : Nat) (H' : Hp) (hs : H'.Sublist H) (ht : env t = some d) (hf : FrzR (gone H H') d d') (h : TC K c Q (env.put t (some d')) H') : TC K c Q env H :=
  TC.view (fun a w hsat => hsat.frz hs fun t' x hx => by
    rcases Env.put_some hx with ⟨rfl, ho⟩ | ⟨hne, ho⟩
    · cases ho; exact ⟨d, ht, hf⟩
    · exact ⟨x, ho, .same x⟩) h
theorem TL.frz {ops : Array Oper} {l : List Oper} {d d' : D} (t : Nat) (H' : Hp) (hs : H'.Sublist H) (ht : env t = some d) (hf : FrzR (gone H H') d d') (h : TL K ops l Q (env.put t (some d')) H') : TL K ops l Q env H :=
  fun a w hsat => h a w (hsat.frz hs fun t' x hx => by
    rcases Env.put_some hx with ⟨rfl, ho⟩ | ⟨hne, ho⟩
    · cases ho; exact ⟨d, ht, hf⟩
    · exact ⟨x, ho, .same x⟩)
end
def RetF (P : Program) (rs : Array ResultVar) (r : D) (e : Exit) (env : Env) (H : Hp) : Prop :=
  (e = .ret ∨ e = .normal) ∧ ∃ ds, ResD P env H rs.toList ds ∧ FrzR (· ∈ H) (oneD ds) r
theorem Fun.of_bodyF {P : Program} {f : FuncId} {fn : Func} {c : Code} {ds : List D} {r : D} (hf : P.funcs[f]? = some fn) (hb : fn.body = some c) (hl : ds.length ≤ fn.ntmps)
    (h : ∀ w F, TC ⟨P, fn.ntmps, w, F, own [], none⟩ c (RetF P fn.results r) (Env.args 0 ds) []) : Fun P f ds r := by
  have key : CallD P f ds [] (fun r' H' => FrzR (· ∈ H') r' r) := CallD.of_body hf hb hl fun w F => (h w F).mono fun e env' H' ⟨he, rs, hres, hfrz⟩ => ⟨he, rs, hres, H', List.Sublist.refl _, hfrz⟩
  intro w F vs hvl hv hh hF
  refine (key w F vs hvl hv hh hF).mono ?_
  rintro e w' ⟨v, r', H', he, hfr, hr, hheap, hk, hfresh⟩
  refine ⟨v, r, [], he, ⟨rfl, rfl⟩, ?_, HeapOK.nil _ _, hk, fun g hg => absurd hg (own_nil g)⟩
  refine frz_rep (M := (· ∈ H')) (fun b hb => ⟨hheap.each b hb, fun g hg hx => ?_⟩) (fun g hx => hx.elim .inl fun h => absurd h (own_nil g)) hfr hr
  rcases hx with hFg | hx
  · rcases hfresh g ⟨b, hb, hg⟩ with h1 | h1
    · exact absurd h1 (own_nil g)
    · have := (hF g hFg).1; omega
  · exact own_nil g hx
theorem Fun.enterF {P : Program} {f n : Nat} {fn : Func} {c : Code} {ds : List D} {r : D} {rs : List ResultVar} (hf : P.funcs[f]? = some fn) (hb : fn.body = some c) (hn : fn.ntmps = n) (hr : fn.results = rs.toArray) (hl : Nat.ble ds.length n = true)
    (h : ∀ w F, TC ⟨P, n, w, F, own [], none⟩ c (RetF P rs.toArray r) (Env.args 0 ds) []) : Fun P f ds r := by
  subst hn
  exact Fun.of_bodyF hf hb (by simpa using hl) (by rw [hr]; exact h)
section
variable {P : Program} {H : Hp} {env : Env} {e : Exit}
theorem retF1 {t : Nat} {r d : D} (he : e = .ret ∨ e = .normal) (hr : env t = some d) (hf : FrzR (· ∈ H) d r) : RetF P [ResultVar.tmp t].toArray r e env H :=
  ⟨he, [d], .tmp hr .nil, hf⟩
theorem retF_row {t ee es : Nat} {v : Value} {xs : List (List D)} {r : D} (hr : env t = some (.v v)) (hm : Blk.row v ee es xs ∈ H) (hes : 0 < es) (hl : ∀ x ∈ xs, x.length = es) (h : D.sl es xs = r) : RetF P [ResultVar.tmp t].toArray r .ret env H :=
  retF1 (.inl rfl) hr (by subst h; exact .row v ee es xs xs hm hes rfl hl fun j d d' h1 h2 => by rw [h1] at h2; cases h2; exact .same d)
end
structure KeyT (P : Program) (k : TypeId) (good : Value → Prop) : Prop where
  check : ∀ w em v, good v → (Instr.checkKey em 10000 k v).run P w = .ok () w
  find : ∀ w v (es : List MapEntry), good v → (∀ e ∈ es, good e.key) →
    ((Instr.findKey k v es).run P w = .ok none w ∧ ∀ e ∈ es, e.key ≠ v) ∨ ∃ j e, (Instr.findKey k v es).run P w = .ok (some (j, e.val)) w ∧ es[j]? = some e ∧ e.key = v
  stays : ∀ w v, good v → (Instr.keyThatStays v v).run P w = .ok v w
inductive LookR (k : Value) : List Value → List D → Option D → Prop where
  | nil : LookR k [] [] none
  | here {ks : List Value} {d : D} {ds : List D} : LookR k (k :: ks) (d :: ds) (some d)
  | there {k' : Value} {ks : List Value} {d : D} {ds : List D} {r : Option D} : k' ≠ k → LookR k ks ds r → LookR k (k' :: ks) (d :: ds) r
inductive SetR (k : Value) (d : D) : List Value → List D → List Value → List D → Prop where
  | nil : SetR k d [] [] [k] [d]
  | here {ks : List Value} {d' : D} {ds : List D} : SetR k d (k :: ks) (d' :: ds) (k :: ks) (d :: ds)
  | there {k' : Value} {ks ks' : List Value} {d' : D} {ds ds' : List D} : k' ≠ k → SetR k d ks ds ks' ds' → SetR k d (k' :: ks) (d' :: ds) (k' :: ks') (d' :: ds')
theorem LookR.none_ {k : Value} {ks : List Value} {ds : List D} (h : LookR k ks ds none) : ∀ k' ∈ ks, k' ≠ k := by
  generalize hr : (none : Option D) = r at h
  induction h with
  | nil => intro k' hk; cases hk
  | here => cases hr
  | there hne _ ih => intro k' hk; rcases List.mem_cons.1 hk with rfl | hk
                      · exact hne
                      · exact ih hr k' hk
theorem LookR.some_ {k : Value} {ks : List Value} {ds : List D} {d : D} (h : LookR k ks ds (some d)) : ∃ j : Nat, ks[j]? = some k ∧ ds[j]? = some d ∧ ∀ i : Nat, i < j → ks[i]? ≠ some k := by
  generalize hr : some d = r at h
  induction h with
  | nil => cases hr
  | here => cases hr; exact ⟨0, rfl, rfl, fun i hi => by omega⟩
  | there hne _ ih =>
    obtain ⟨j, h1, h2, h3⟩ := ih hr
    refine ⟨j + 1, by simpa using h1, by simpa using h2, fun i hi => ?_⟩
    cases i with
    | zero => simpa using hne
    | succ i => simpa using h3 i (by omega)
theorem SetR.spec {k : Value} {d : D} {ks ks' : List Value} {ds ds' : List D} (h : SetR k d ks ds ks' ds') (hl : ds.length = ks.length) :
    ((∀ k' ∈ ks, k' ≠ k) ∧ ks' = ks ++ [k] ∧ ds' = ds ++ [d]) ∨ ∃ j : Nat, ks[j]? = some k ∧ ks' = ks ∧ ds' = ds.set j d ∧ ∀ i : Nat, i < j → ks[i]? ≠ some k := by
  induction h with
  | nil => exact .inl ⟨fun k' hk => absurd hk (by simp), rfl, rfl⟩
  | here => exact .inr ⟨0, rfl, rfl, rfl, fun i hi => by omega⟩
  | there hne _ ih =>
    rcases ih (by simpa using hl) with ⟨h1, h2, h3⟩ | ⟨j, h1, h2, h3, h4⟩
    · refine .inl ⟨fun k' hk => ?_, by rw [h2]; rfl, by rw [h3]; rfl⟩
      rcases List.mem_cons.1 hk with rfl | hk
      · exact hne
      · exact h1 k' hk
    · refine .inr ⟨j + 1, by simpa using h1, by rw [h2], by rw [h3]; rfl, fun i hi => ?_⟩
      cases i with
      | zero => simpa using hne
      | succ i => simpa using h4 i (by omega)
inductive FlatD : D → Value → Prop where
  | v (x : Value) : FlatD (.v x) x
  | agg (ds : List D) (vs : List Value) : ds = vs.map .v → FlatD (.agg ds) (.agg vs.toArray)
theorem FlatD.eq {d : D} {v u : Value} {w : World} {o : Nat → Prop} (h : FlatD d v) (hr : Rep w o d u) : u = v := by
  cases h with
  | v => exact Rep.of_v hr
  | agg ds vs he =>
    subst he
    cases hr with
    | agg _ us hs h1 hj =>
      congr 1
      apply Array.ext
      · simpa using hs
      · intro i h1 h2
        have := hj i _ _ (by rw [List.getElem?_map, List.getElem?_eq_getElem (by simpa using h2)]; rfl) (Array.getElem?_eq_getElem h1)
        simpa using Rep.of_v this
section
variable {P : Program} {H : Hp} {env : Env} {dst : Option Tmp} {ty : TypeId} {pos : String} {af : Array Edge} {gd : Option (Nat × Bool)}
theorem mp_ok {w : World} {F : Nat → Prop} (hh : HeapOK w (both F H) H) {g : Nat} {ks : List Value} {ds : List D} (hm : Blk.mp g ks ds ∈ H) :
    ∃ (es : Array MapEntry) (clock : Nat), w.heap[g]? = some (.map es clock) ∧ es.size = ks.length ∧ ds.length = ks.length ∧
      (∀ (j : Nat) (k : Value) (e : MapEntry), ks[j]? = some k → es[j]? = some e → e.key = k) ∧
      ∀ (j : Nat) (d : D) (e : MapEntry), ds[j]? = some d → es[j]? = some e → Rep w (both F H) d e.val := hh.each _ hm
theorem run_getObj_map {w : World} {g : Nat} {es : Array MapEntry} {clock : Nat} (h : w.heap[g]? = some (.map es clock)) : (getObj g).run P w = .ok (.map es clock) w := by
  simp [getObj, Sem.run, h]
theorem entries_good {good : Value → Prop} {ks : List Value} {es : Array MapEntry} (hs : es.size = ks.length) (hk : ∀ (j : Nat) (k : Value) (e : MapEntry), ks[j]? = some k → es[j]? = some e → e.key = k) (hg : ∀ k ∈ ks, good k) :
    ∀ e ∈ es.toList, good e.key := fun e he => by
  obtain ⟨j, hj⟩ := List.mem_iff_getElem?.1 he
  have hj' : es[j]? = some e := by rw [← toList_getElem?]; exact hj
  have hlt : j < ks.length := by rw [← hs]; exact (Array.getElem?_eq_some_iff.1 hj').1
  rw [hk j _ e (List.getElem?_eq_getElem hlt) hj']
  exact hg _ (List.getElem_mem hlt)
theorem run_lookup {w : World} {o : Nat → Prop} {t kt et g : Nat} {good : Value → Prop} {k : Value} {z : Value} {ks : List Value} {ds : List D} {es : Array MapEntry} {clock : Nat} {r : Option D}
    (hu : P.underlying t = some (.map kt et)) (hK : KeyT P kt good) (hz : ∀ w, (zeroValue et).run P w = .ok z w) (hk : good k) (hks : ∀ k ∈ ks, good k) (hnd : ks.Nodup)
    (hh : w.heap[g]? = some (.map es clock)) (hs : es.size = ks.length) (hd : ds.length = ks.length) (hkey : ∀ (j : Nat) (k : Value) (e : MapEntry), ks[j]? = some k → es[j]? = some e → e.key = k)
    (hv : ∀ (j : Nat) (d : D) (e : MapEntry), ds[j]? = some d → es[j]? = some e → Rep w o d e.val) (hr : LookR k ks ds r) :
    ∃ v, (Instr.lookup t (.map (some g)) k true).run P w = .ok (.tuple #[v, .bool r.isSome]) w ∧ (Instr.lookup t (.map (some g)) k false).run P w = .ok v w ∧ Rep w o (r.getD (.v z)) v := by
  have hgood := entries_good hs hkey hks
  rcases hK.find w k es.toList hk hgood with ⟨hf, hne⟩ | ⟨j, e, hf, hj, hek⟩
  · have hrn : r = none := by
      cases r with
      | none => rfl
      | some d =>
        obtain ⟨j, h1, h2, _⟩ := hr.some_
        have hlt : j < es.size := by rw [hs]; exact (List.getElem?_eq_some_iff.1 h1).1
        exact absurd (hkey j k es[j] h1 (Array.getElem?_eq_getElem hlt)) (hne _ (by simp))
    subst hrn
    refine ⟨z, ?_, ?_, .v z⟩
    all_goals simp [Instr.lookup, run_underlying hu, run_getObj_map hh, hK.check w _ k hk, hf, hz]
  · have hj' : es[j]? = some e := by rw [← toList_getElem?]; exact hj
    have hlt : j < ks.length := by rw [← hs]; exact (Array.getElem?_eq_some_iff.1 hj').1
    have hkj : ks[j]? = some k := by rw [List.getElem?_eq_getElem hlt, ← hkey j _ e (List.getElem?_eq_getElem hlt) hj', hek]
    have hrs : ∃ d, r = some d ∧ ds[j]? = some d := by
      cases r with
      | none => exact absurd rfl (hr.none_ k (List.mem_of_getElem? hkj))
      | some d =>
        obtain ⟨i, h1, h2, _⟩ := hr.some_
        have : i = j := by
          have a1 := (List.getElem?_eq_some_iff.1 h1)
          have a2 := (List.getElem?_eq_some_iff.1 hkj)
          exact (List.getElem_inj hnd).1 (a1.2.trans a2.2.symm)
        subst this
        exact ⟨d, rfl, h2⟩
    obtain ⟨d, rfl, hdj⟩ := hrs
    refine ⟨e.val, ?_, ?_, hv j d e hdj hj'⟩
    all_goals simp [Instr.lookup, run_underlying hu, run_getObj_map hh, hK.check w _ k hk, hf]
structure MapT (P : Program) (t kt et : Nat) (z : Value) (good : Value → Prop) : Prop where
  under : P.underlying t = some (.map kt et)
  zero : ∀ w, (zeroValue et).run P w = .ok z w
  key : KeyT P kt good
theorem pure_lookup_ok {x y : Operand} {t kt et g : Nat} {z k : Value} {good : Value → Prop} {kd : D} {ks : List Value} {ds : List D} {r : Option D} (ht : MapT P t kt et z good) (hx : opD env x = some (.v (.map (some g)))) (hy : opD env y = some kd)
    (hk : FlatD kd k) (hgk : good k) (hks : ∀ k ∈ ks, good k) (hnd : ks.Nodup) (hm : Blk.mp g ks ds ∈ H) (hr : LookR k ks ds r) :
    Pure P H ⟨dst, .lookup t x y true, ty, pos, af, gd⟩ env (.tup [r.getD (.v z), .v (.bool r.isSome)]) := pure_of fun w F ρ hh hx' => by
  have e1 := Rep.of_v (hx' x (by simp [Op.operands]) _ hx)
  have e2 := hk.eq (hx' y (by simp [Op.operands]) _ hy)
  obtain ⟨es, clock, h1, h2, h3, h4, h5⟩ := mp_ok hh hm
  obtain ⟨v, hv, _, hrep⟩ := run_lookup (o := both F H) ht.under ht.key ht.zero hgk hks hnd h1 h2 h3 h4 h5 hr
  refine ⟨.tuple #[v, .bool r.isSome], by simp [execOp, e1, e2, hv], .tup _ _ rfl fun j d u hd hu => ?_⟩
  match j with
  | 0 => simp at hd hu; subst hd; subst hu; exact hrep
  | 1 => simp at hd hu; subst hd; subst hu; exact .v _
  | j + 2 => simp at hd
end
section
variable {K : Ctx} {Q : Exit → Env → Hp → Prop} {env : Env} {H H' : Hp} {ops : Array Oper} {rest : List Oper} {t : Nat} {ty : TypeId} {pos : String} {af : Array Edge}
theorem TL.makeMap {T : Nat} (hd : Nat.blt t K.n = true)
    (h : ∀ g, TL K ops rest Q (env.put t (some (.v (.map (some g))))) (.mp g [] [] :: H)) : TL K ops (⟨some t, .makeMap T none, ty, pos, af, none⟩ :: rest) Q env H := fun a w hs => by
  unfold wpListIn
  rw [if_pos (by rfl)]
  have e : (execOp a.eval ⟨some t, .makeMap T none, ty, pos, af, none⟩).run K.P w = .ok (.value (.map (some w.heap.size))) (w.alloc (.map #[] 0)) := by
    simp [execOp, Instr.makeMap]
  refine wpIn_ok (fun _ h => by cases h) e ?_
  refine h w.heap.size _ _ (Sat.dst (hs.push (b := .mp w.heap.size [] []) (Kept.alloc _ _ _) (fun g hg => by cases hg; exact Nat.le_refl _) ⟨#[], 0, heap_alloc_new w _, rfl, rfl, fun j k e hk => by simp at hk, fun j d e hd => by simp at hd⟩) (by simpa [Nat.blt_eq] using hd) (.v _))
theorem run_setObj_map {P : Program} {w : World} {g : Nat} {es es' : Array MapEntry} {clock clock' : Nat} (h : w.heap[g]? = some (.map es clock)) :
    (setObj g (.map es' clock')).run P w = .ok () { w with heap := w.heap.setIfInBounds g (.map es' clock') } := by
  simp [setObj, Sem.run, h]
theorem TL.mapUpdate {T kt et g : Nat} {x y v : Operand} {z k : Value} {good : Value → Prop} {kd d : D} {ks ks' : List Value} {ds ds' : List D} (ht : MapT K.P T kt et z good) (hx : opD env x = some (.v (.map (some g)))) (hy : opD env y = some kd) (hv : opD env v = some d)
    (hk : FlatD kd k) (hgk : good k) (hks : ∀ k ∈ ks, good k) (hnd : ks.Nodup) (hset : SetR k d ks ds ks' ds') (hu : UpdR (.mp g ks ds) (.mp g ks' ds') H H')
    (h : TL K ops rest Q env H') : TL K ops (⟨none, .mapUpdate T x y v, ty, pos, af, none⟩ :: rest) Q env H := fun a w hs => by
  unfold wpListIn
  rw [if_pos (by rfl)]
  have e1 := Rep.of_v (hs.eval hx)
  have e2 := hk.eq (hs.eval hy)
  obtain ⟨es, clock, h1, h2, h3, h4, h5⟩ := mp_ok hs.heap hu.mem
  have hgood := entries_good h2 h4 hks
  have hlt : g < w.heap.size := (Array.getElem?_eq_some_iff.1 h1).1
  have hkept : ∀ o, Kept (fun x => some g = some x) w { w with heap := w.heap.setIfInBounds g o } := fun o =>
    ⟨rfl, rfl, rfl, by simp, fun j _ hn => by simp only; rw [Array.getElem?_setIfInBounds_ne (fun e => hn (by rw [e]))]⟩
  have hbb : ∀ g', (Blk.mp g ks' ds').blk = some g' → (Blk.mp g ks ds).blk = some g' ∨ w.heap.size ≤ g' := fun g' hg' => .inl hg'
  have fin : ∀ (es' : Array MapEntry) (clock' : Nat), es'.size = ks'.length → ds'.length = ks'.length → (∀ (j : Nat) (k : Value) (e : MapEntry), ks'[j]? = some k → es'[j]? = some e → e.key = k) →
      (∀ (j : Nat) (d : D) (e : MapEntry), ds'[j]? = some d → es'[j]? = some e → Rep w (both K.F H) d e.val) →
      Sat K env H' (a.put none undef) { w with heap := w.heap.setIfInBounds g (.map es' clock') } := fun es' clock' q1 q2 q3 q4 =>
    Sat.upd (b := .mp g ks ds) (b' := .mp g ks' ds') hs hu hbb (hkept _) ⟨es', clock', by simp [hlt], q1, q2, q3, fun j d e hd he => hs.rep_upd hu hbb (hkept _) (q4 j d e hd he)⟩
  have hrv := hs.eval hv
  rcases ht.key.find w k es.toList hgk hgood with ⟨hf, hne⟩ | ⟨j, e, hf, hj, hek⟩
  · -- a new key
    rcases hset.spec h3 with ⟨hnk, rfl, rfl⟩ | ⟨j, hj, _⟩
    · have e3 : (execOp a.eval ⟨none, .mapUpdate T x y v, ty, pos, af, none⟩).run K.P w = .ok .skip { w with heap := w.heap.setIfInBounds g (.map (es.push { key := k, val := a.eval v, born := clock }) (clock + 1)) } := by
        simp [execOp, Instr.mapUpdate, run_underlying ht.under, e1, e2, run_getObj_map h1, ht.key.check w _ k hgk, hf, run_setObj_map h1]
      refine wpIn_ok (fun _ h => by cases h) e3 ?_
      refine h _ _ (fin _ _ (by simp [h2]) (by simp [h3]) (fun j k' e hk' he => ?_) (fun j d' e hd' he => ?_))
      · by_cases hjl : j < ks.length
        · rw [List.getElem?_append_left hjl] at hk'
          rw [Array.getElem?_push, if_neg (by omega)] at he
          exact h4 j k' e hk' he
        · have hjl' : j = ks.length := by
            have := (List.getElem?_eq_some_iff.1 hk').1
            simp at this; omega
          subst hjl'
          rw [List.getElem?_append_right (by omega)] at hk'
          rw [Array.getElem?_push, if_pos (by omega)] at he
          simp at hk' he
          subst hk'; subst he; rfl
      · by_cases hjl : j < ds.length
        · rw [List.getElem?_append_left hjl] at hd'
          rw [Array.getElem?_push, if_neg (by omega)] at he
          exact h5 j d' e hd' he
        · have hjl' : j = ds.length := by
            have := (List.getElem?_eq_some_iff.1 hd').1
            simp at this; omega
          subst hjl'
          rw [List.getElem?_append_right (by omega)] at hd'
          rw [Array.getElem?_push, if_pos (by omega)] at he
          simp at hd' he
          subst hd'; subst he; exact hrv
    · exfalso
      have hjl : j < es.size := by rw [h2]; exact (List.getElem?_eq_some_iff.1 hj).1
      exact hne es[j] (by simp) (h4 j k es[j] hj (Array.getElem?_eq_getElem hjl))
  · have hj' : es[j]? = some e := by rw [← toList_getElem?]; exact hj
    have hjl : j < ks.length := by rw [← h2]; exact (Array.getElem?_eq_some_iff.1 hj').1
    have hkj : ks[j]? = some k := by rw [List.getElem?_eq_getElem hjl, ← h4 j _ e (List.getElem?_eq_getElem hjl) hj', hek]
    rcases hset.spec h3 with ⟨hnk, _⟩ | ⟨i, hi, rfl, rfl, _⟩
    · exact absurd rfl (hnk k (List.mem_of_getElem? hkj))
    · have hij : i = j := by
        have a1 := (List.getElem?_eq_some_iff.1 hi)
        have a2 := (List.getElem?_eq_some_iff.1 hkj)
        exact (List.getElem_inj hnd).1 (a1.2.trans a2.2.symm)
      subst hij
      have e3 : (execOp a.eval ⟨none, .mapUpdate T x y v, ty, pos, af, none⟩).run K.P w = .ok .skip { w with heap := w.heap.setIfInBounds g (.map (es.modify i fun e => { e with key := k, val := a.eval v }) clock) } := by
        have hkk : ((es[i]?).map (·.key)).getD k = k := by rw [hj']; exact hek
        simp [execOp, Instr.mapUpdate, run_underlying ht.under, e1, e2, run_getObj_map h1, ht.key.check w _ k hgk, hf, hj', hek, ht.key.stays w k hgk, run_setObj_map h1]
      refine wpIn_ok (fun _ h => by cases h) e3 ?_
      refine h _ _ (fin _ _ (by simp [h2]) (by simp [h3]) (fun j k' e hk' he => ?_) (fun j d' e hd' he => ?_))
      · rw [Array.getElem?_modify] at he
        by_cases hji : i = j
        · subst hji
          rw [if_pos rfl, hj'] at he
          rw [hkj] at hk'
          simp at he hk'
          subst he; subst hk'; rfl
        · rw [if_neg hji] at he
          exact h4 j k' e hk' he
      · rw [Array.getElem?_modify] at he
        by_cases hji : i = j
        · subst hji
          rw [if_pos rfl, hj'] at he
          rw [List.getElem?_set_self (by omega)] at hd'
          simp at he hd'
          subst he; subst hd'; exact hrv
        · rw [if_neg hji] at he
          rw [List.getElem?_set_ne hji] at hd'
          exact h5 j d' e hd' he
end
end Go.Ob
/- Comparisons of structs, bools, strings; slices built; strings read; elements of a row of the call's own. -/
set_option linter.unusedVariables false
set_option linter.unusedSimpArgs false
set_option linter.unusedSectionVars false
namespace Go.Ob
open Go.RowKit
inductive PartsD (env : Env) (es : Nat) : List Operand → List (List D) → Prop where
  | nil : PartsD env es [] []
  | cons {x : Operand} {d : D} {ds : List D} {xs : List Operand} {ys : List (List D)} : opD env x = some d → CellsD d ds → Nat.beq ds.length es = true → PartsD env es xs ys → PartsD env es (x :: xs) (ds :: ys)
def numbered (k : Nat) : List Operand → List (Nat × Operand)
  | [] => []
  | x :: xs => (k, x) :: numbered (k + 1) xs
inductive IntsD : List D → List Int → Prop where
  | nil : IntsD [] []
  | cons {a : Int} {ds : List D} {as0 : List Int} : IntsD ds as0 → IntsD (.v (.int .i64 a) :: ds) (a :: as0)
theorem IntsD.eq {ds : List D} {as0 : List Int} (h : IntsD ds as0) : ds = as0.map fun a => .v (.int .i64 a) := by induction h <;> simp [*]
structure EqT (P : Program) (t n : Nat) : Prop where
  guard : P.eqGuardType P.depth t = false
  eq : ∀ w (as0 bs : List Int), as0.length = n → bs.length = n →
    (Op.equalIn 10000 t (.agg (as0.map (.int .i64)).toArray) (.agg (bs.map (.int .i64)).toArray)).run P w = .ok (decide (as0 = bs)) w
theorem agg_ints {w : World} {o : Nat → Prop} {as0 : List Int} {u : Value} (h : Rep w o (.agg (as0.map fun a => .v (.int .i64 a))) u) : u = .agg (as0.map (.int .i64)).toArray := by
  cases h with
  | agg _ vs hs h1 hj =>
    congr 1
    apply Array.ext
    · simpa using hs
    · intro i h1 h2
      have := hj i _ _ (by rw [List.getElem?_map, List.getElem?_eq_getElem (by simpa using h2)]; rfl) (Array.getElem?_eq_getElem h1)
      simpa using Rep.of_v this
theorem bytes_beq (a b : ByteArray) : (a.toList == b.toList) = decide (a = b) := by
  rw [Bool.eq_iff_iff, beq_iff_eq, decide_eq_true_eq, ByteArray.toList_eq, ByteArray.toList_eq]
  constructor
  · intro h
    obtain ⟨⟨x⟩⟩ := a
    obtain ⟨⟨y⟩⟩ := b
    simp only at h
    subst h
    rfl
  · intro h; rw [h]
section
variable {P : Program} {H : Hp} {env : Env} {dst : Option Tmp} {ty : TypeId} {pos : String} {af : Array Edge} {gd : Option (Nat × Bool)} {t t2 : TypeId} {x y : Operand}
theorem pure_eql_agg {n : Nat} {ds es : List D} {as0 bs : List Int} (ht : EqT P t n) (hx : opD env x = some (.agg ds)) (hy : opD env y = some (.agg es)) (h1 : IntsD ds as0) (h2 : IntsD es bs) (l1 : Nat.beq as0.length n = true) (l2 : Nat.beq bs.length n = true) :
    Pure P H ⟨dst, .binOp .eql t x y t2, ty, pos, af, gd⟩ env (.v (.bool (decide (as0 = bs)))) := pure_of fun w _ ρ _ h => by
  rw [h1.eq] at hx
  rw [h2.eq] at hy
  have e1 := agg_ints (h x (by simp [Op.operands]) _ hx)
  have e2 := agg_ints (h y (by simp [Op.operands]) _ hy)
  have hg := run_eqGuard_agg (P := P) w .eql t x y (as0.map (.int .i64)).toArray (bs.map (.int .i64)).toArray ht.guard
  have he := run_eql_struct (P := P) w t (as0.map (.int .i64)).toArray (bs.map (.int .i64)).toArray
  rw [ht.eq w as0 bs (Nat.eq_of_beq_eq_true l1) (Nat.eq_of_beq_eq_true l2)] at he
  refine ⟨_, ?_, .v _⟩
  simp only [execOp, e1, e2, Sem.run_bind, hg, Result.andThen_ok, he]
  rfl
theorem pure_neq_agg {n : Nat} {ds es : List D} {as0 bs : List Int} (ht : EqT P t n) (hx : opD env x = some (.agg ds)) (hy : opD env y = some (.agg es)) (h1 : IntsD ds as0) (h2 : IntsD es bs) (l1 : Nat.beq as0.length n = true) (l2 : Nat.beq bs.length n = true) :
    Pure P H ⟨dst, .binOp .neq t x y t2, ty, pos, af, gd⟩ env (.v (.bool (decide (as0 ≠ bs)))) := pure_of fun w _ ρ _ h => by
  rw [h1.eq] at hx
  rw [h2.eq] at hy
  have e1 := agg_ints (h x (by simp [Op.operands]) _ hx)
  have e2 := agg_ints (h y (by simp [Op.operands]) _ hy)
  have hg := run_eqGuard_agg (P := P) w .neq t x y (as0.map (.int .i64)).toArray (bs.map (.int .i64)).toArray ht.guard
  have he := run_neq_struct (P := P) w t (as0.map (.int .i64)).toArray (bs.map (.int .i64)).toArray
  rw [ht.eq w as0 bs (Nat.eq_of_beq_eq_true l1) (Nat.eq_of_beq_eq_true l2)] at he
  refine ⟨_, ?_, .v _⟩
  simp only [execOp, e1, e2, Sem.run_bind, hg, Result.andThen_ok, he]
  simp
theorem pure_neq_string {a b : ByteArray} (hx : opD env x = some (.v (.string a))) (hy : opD env y = some (.v (.string b))) :
    Pure P H ⟨dst, .binOp .neq t x y t2, ty, pos, af, gd⟩ env (.v (.bool (decide (a ≠ b)))) := pure_bin hx hy fun w => by
  simp [eqGuard, binOp, Op.stringOp, bytes_beq, bne]
theorem run_fill_parts {w : World} {o : Nat → Prop} {ρ : Operand → Value} {es : Nat} {xs : List Operand} {ys : List (List D)} (h : PartsD env es xs ys) (hx : ∀ x ∈ xs, ∀ dx, opD env x = some dx → Rep w o dx (ρ x)) :
    ∀ (k : Nat) (done : List Value) (zs : Array Value), done.length = k * es → zs.size = (k + xs.length) * es → zs.toList.take (k * es) = done →
      ∃ news : List Value, Instr.fill (fun i => some (i * es, es)) zs ((numbered k xs).map fun (i, x) => (i, ρ x)) = some (done ++ news).toArray ∧ news.length = xs.length * es ∧
        ∀ (j : Nat) (d : D) (u : Value), ys.flatten[j]? = some d → news[j]? = some u → u.oneCell' = true ∧ Rep w o d u := by
  induction h with
  | nil =>
    intro k done zs hd hz ht
    refine ⟨[], ?_, by simp, fun j d u hd => by simp at hd⟩
    simp only [numbered, List.map_nil, Instr.fill, List.append_nil, Option.some.injEq]
    rw [← ht, List.take_of_length_le (by simp at hz ⊢; omega)]
  | @cons x d ds xs ys hxd hc hl hp ih =>
    intro k done zs hd hz ht
    have hl' : ds.length = es := Nat.eq_of_beq_eq_true hl
    obtain ⟨c1, c2⟩ := hc.rep (hx x (by simp) d hxd)
    have hsz : (ρ x).cells.size = es := by rw [c1, hl']
    have hfit : k * es + es ≤ zs.size := by
      rw [hz, List.length_cons, show (k + (xs.length + 1)) * es = k * es + es + xs.length * es by rw [show k + (xs.length + 1) = k + 1 + xs.length by omega, Nat.add_mul, Nat.add_mul, Nat.one_mul]]
      omega
    have hzf := zip_fold zs (k * es) (ρ x).cells.toList 0 zs (by rw [Array.length_toList, hsz]; simpa using hfit)
    rw [← Array.toList_zipIdx, Array.foldl_toList, Nat.add_zero, Array.length_toList, hsz] at hzf
    obtain ⟨news, h1, h2, h3⟩ := ih (fun y hy => hx y (by simp [hy])) (k + 1) (done ++ (ρ x).cells.toList) ((ρ x).cells.zipIdx.foldl (fun cs (c, j) => cs.setIfInBounds (k * es + j) c) zs)
      (by rw [List.length_append, hd, Array.length_toList, hsz, Nat.add_mul, Nat.one_mul])
      (by
        rw [← Array.length_toList, hzf]
        simp only [List.length_append, List.length_take, List.length_drop, Array.length_toList, hsz]
        rw [show (k + 1 + xs.length) * es = (k + (xs.length + 1)) * es by congr 1; omega]
        rw [List.length_cons] at hz
        omega)
      (by
        rw [hzf, List.take_append_of_le_length (by simp only [List.length_append, List.length_take, Array.length_toList, hsz, Nat.add_mul, Nat.one_mul]; omega), ht]
        exact List.take_of_length_le (by rw [List.length_append, hd, Array.length_toList, hsz, Nat.add_mul, Nat.one_mul]; omega))
    refine ⟨(ρ x).cells.toList ++ news, ?_, ?_, fun j d' u hdj huj => ?_⟩
    · simp only [numbered, List.map_cons, Instr.fill]
      rw [if_neg (by rw [hsz]; simp; omega), h1, List.append_assoc]
    · rw [List.length_append, Array.length_toList, hsz, h2, List.length_cons, Nat.add_mul, Nat.one_mul, Nat.add_comm]
    · rw [List.flatten_cons] at hdj
      by_cases hjl : j < ds.length
      · rw [List.getElem?_append_left hjl] at hdj
        rw [List.getElem?_append_left (by rw [Array.length_toList]; omega)] at huj
        exact c2 j d' u hdj (by rw [← toList_getElem?]; exact huj)
      · rw [List.getElem?_append_right (by omega)] at hdj
        rw [List.getElem?_append_right (by rw [Array.length_toList]; omega), Array.length_toList, hsz, ← hl'] at huj
        exact h3 _ d' u hdj huj
theorem PartsD.len {es : Nat} {xs : List Operand} {ys : List (List D)} (h : PartsD env es xs ys) : ys.length = xs.length ∧ ∀ y ∈ ys, y.length = es := by
  induction h with
  | nil => simp
  | cons _ _ hl _ ih =>
    refine ⟨by simp [ih.1], fun y hy => ?_⟩
    rcases List.mem_cons.1 hy with rfl | hy
    · exact Nat.eq_of_beq_eq_true hl
    · exact ih.2 y hy
theorem run_buildSlice {e es bytes n : Nat} {ps : Array (Nat × Operand)} {xs : List Operand} {ys : List (List D)} (ht : AppT P t e es bytes) (hps : ps.toList = numbered 0 xs) (hn : n = xs.length) (hp : PartsD env es xs ys) (hsmall : n * es ≤ 16777216)
    {w : World} {o : Nat → Prop} {ρ : Operand → Value} (hx : ∀ x ∈ xs, ∀ dx, opD env x = some dx → Rep w o dx (ρ x)) :
    ∃ news : List Value, (execOp ρ ⟨dst, .buildSlice t n ps, ty, pos, af, gd⟩).run P w = .ok (.value (.slice (some ⟨w.heap.size, 0, none⟩) n n)) (w.alloc (.cells news.toArray e)) ∧ news.length = ys.length * es ∧
        ∀ (j : Nat) (d : D) (u : Value), ys.flatten[j]? = some d → news[j]? = some u → u.oneCell' = true ∧ Rep w o d u := by
  obtain ⟨i, z, hi, hz, hsz, hby, hzs⟩ := ht.info
  subst hn
  have hzr : (zeroValue e).run P w = .ok z w := by simp [zeroValue, typeInfo, hi, hz]
  have e1 : (Array.map (fun x => match x with | (i, x) => (i, ρ x)) ps).toList = (numbered 0 xs).map fun (i, x) => (i, ρ x) := by rw [← hps]; simp
  have hsmall' : ¬ (xs.length * es > 2 ^ 24) := by omega
  by_cases h0 : xs.length * es = 0
  · obtain ⟨news, h1, h2, h3⟩ := run_fill_parts (w := w) (o := o) (ρ := ρ) hp hx 0 [] ((Array.range (xs.length * es)).map ((#[] : Array Value)[· % (#[] : Array Value).size]!)) (by simp) (by simp) (by simp)
    refine ⟨news, ?_, by rw [h2, hp.len.1], h3⟩
    rw [h0] at h1
    simp only [execOp, Instr.buildSlice, Sem.run_bind, run_underlying ht.under, Result.andThen_ok, ht.size, h0, show ¬ (0 > 2 ^ 24) by omega, if_false, if_true, Sem.run_pure, e1, h1]
    simp [newRow]
  · obtain ⟨news, h1, h2, h3⟩ := run_fill_parts (w := w) (o := o) (ρ := ρ) hp hx 0 [] ((Array.range (xs.length * es)).map (z.cells[· % z.cells.size]!)) (by simp) (by simp) (by simp)
    refine ⟨news, ?_, by rw [h2, hp.len.1], h3⟩
    simp only [execOp, Instr.buildSlice, Sem.run_bind, run_underlying ht.under, Result.andThen_ok, ht.size, hsmall', h0, if_false, Sem.run_pure, hzr, e1, h1]
    simp [newRow]
theorem pure_buildSlice {e es bytes n : Nat} {ps : Array (Nat × Operand)} {xs : List Operand} {ys : List (List D)} (ht : AppT P t e es bytes) (hsmall : n * es ≤ 16777216) (hps : ps.toList = numbered 0 xs) (hn : n = xs.length) (hp : PartsD env es xs ys) :
    Pure P H ⟨dst, .buildSlice t n ps, ty, pos, af, gd⟩ env (.sl es ys) := by
  intro w F a hh hF hx r next Q hnx
  have hop : ∀ (ps : List (Nat × Operand)) (k : Nat) (xs : List Operand), ps = numbered k xs → ∀ x ∈ xs, x ∈ ps.map (·.2) := by
    intro ps k xs h
    subst h
    induction xs generalizing k with
    | nil => intro x hx; cases hx
    | cons y ys ih =>
      intro x hx
      rcases List.mem_cons.1 hx with rfl | hx
      · simp [numbered]
      · simp only [numbered, List.map_cons, List.mem_cons]; exact .inr (ih (k + 1) x hx)
  obtain ⟨news, h1, h2, h3⟩ := run_buildSlice (dst := dst) (ty := ty) (pos := pos) (af := af) (gd := gd) ht hps hn hp hsmall (w := w) (o := both F H) (ρ := a.eval) (fun x hxm dx hd => hx x (by
      simp only [Op.operands]
      have := hop ps.toList 0 xs hps x hxm
      simpa using this) dx hd)
  refine wpIn_ok (fun _ h => by cases h) h1 ?_
  have hk : Kept no w (w.alloc (.cells news.toArray e)) := Kept.alloc _ _ _
  refine hnx _ _ ?_ hk
  have hlen := hp.len
  have hnl : n = ys.length := by rw [hn, hlen.1]
  refine row_data (e := e) ht.pos ⟨news, ⟨by rw [h2], .inr ⟨w.heap.size, n, news.toArray, by rw [hnl], Nat.zero_le _, heap_alloc_new w _, by omega, ?_, by simp [h2, hnl], ?_⟩⟩, hlen.2, fun j d u hd hu => ⟨(h3 j d u hd hu).1, (h3 j d u hd hu).2.kept hk (fun _ _ hf => hf.elim) (fun _ _ h => h)⟩⟩ (fun g hg => ?_)
  · have : n ≤ n * es := Nat.le_mul_of_pos_right n ht.pos
    simp only [maxLen]; omega
  · rw [List.take_of_length_le (by simp [h2])]
  · simp only [Value.ownBlock, Option.some.injEq] at hg
    subst hg
    rintro (hFg | ⟨b, hb, hbg⟩)
    · have := (hF _ hFg).1; omega
    · have := Blk.blk_lt (hh.each b hb) hbg; omega
end
section
variable {K : Ctx} {Q : Exit → Env → Hp → Prop} {env : Env} {H H' : Hp} {ops : Array Oper} {rest : List Oper} {t : Nat} {ty : TypeId} {pos : String} {af : Array Edge}
theorem TL.buildRow {T e es bytes n : Nat} {ps : Array (Nat × Operand)} {xs : List Operand} {ys : List (List D)} (ht : AppT K.P T e es bytes) (hsmall : n * es ≤ 16777216) (hps : ps.toList = numbered 0 xs) (hn : n = xs.length) (hp : PartsD env es xs ys) (hd : Nat.blt t K.n = true)
    (h : ∀ v, v.oneCell' = true → TL K ops rest Q (env.put t (some (.v v))) (.row v e es ys :: H)) : TL K ops (⟨some t, .buildSlice T n ps, ty, pos, af, none⟩ :: rest) Q env H := fun a w hs => by
  unfold wpListIn
  rw [if_pos (by rfl)]
  obtain ⟨news, h1, h2, h3⟩ := run_buildSlice (dst := some t) (ty := ty) (pos := pos) (af := af) (gd := none) ht hps hn hp hsmall (w := w) (o := both K.F H) (ρ := a.eval) (fun x hxm dx hd => hs.eval hd)
  refine wpIn_ok (fun _ h => by cases h) h1 ?_
  have hlen := hp.len
  have hnl : n = ys.length := by rw [hn, hlen.1]
  have hk : Kept no w (w.alloc (.cells news.toArray e)) := Kept.alloc _ _ _
  have hb : ∀ g, (Blk.row (.slice (some ⟨w.heap.size, 0, none⟩) n n) e es ys).blk = some g → w.heap.size ≤ g := fun g hg => by
    simp only [Blk.blk, Value.ownBlock, Option.some.injEq] at hg; omega
  refine h _ rfl _ _ (Sat.dst (hs.push hk hb ⟨news, ⟨by rw [h2], .inr ⟨w.heap.size, n, news.toArray, by rw [hnl], Nat.zero_le _, heap_alloc_new w _, by omega, ?_, by simp [h2, hnl], ?_⟩⟩, hlen.2, fun j d u hd hu => ⟨(h3 j d u hd hu).1, hs.rep_push hk hb (h3 j d u hd hu).2⟩⟩) (by simpa [Nat.blt_eq] using hd) (.v _))
  · have : n ≤ n * es := Nat.le_mul_of_pos_right n ht.pos
    simp only [maxLen]; omega
  · rw [List.take_of_length_le (by simp [h2])]
theorem TL.indexRow {T e' es e : Nat} {x y : Operand} {v : Value} {xs : List (List D)} {k : IntKind} {i : Int} (ht : SliceT K.P T e' es) (hx : opD env x = some (.v v)) (hy : opD env y = some (.v (.int k i))) (hm : Blk.row v e es xs ∈ H) (h0 : 0 ≤ i) (hi : i < xs.length)
    (hd : Nat.blt t K.n = true) (h : ∀ g, v.ownBlock = some g → TL K ops rest Q (env.put t (some (.v (.pointer (some ⟨g, i.toNat * es, none⟩))))) H) :
    TL K ops (⟨some t, .indexAddr T x y, ty, pos, af, none⟩ :: rest) Q env H := fun a w hs => by
  unfold wpListIn
  rw [if_pos (by rfl)]
  have e1 := Rep.of_v (hs.eval hx)
  have e2 := Rep.of_v (hs.eval hy)
  obtain ⟨vals, hown, hxe, hj⟩ := row_ok hs.heap hm
  rcases hown.2 with ⟨_, hn⟩ | ⟨g, cap, cur, hv, _⟩
  · rw [hn] at hi; omega
  · have e3 : (execOp a.eval ⟨some t, .indexAddr T x y, ty, pos, af, none⟩).run K.P w = .ok (.value (.pointer (some ⟨g, i.toNat * es, none⟩))) w := by
      have ha : (⟨g, 0, none⟩ : Addr).add (i.toNat * es) = ⟨g, i.toNat * es, none⟩ := by rw [own_add, Nat.zero_add]
      simp [execOp, Instr.indexAt, e1, e2, hv, asIntOf, run_underlying ht.under, h0, hi, ht.size, ha]
    refine wpIn_ok (fun _ h => by cases h) e3 ?_
    exact h g (by rw [hv]; rfl) _ _ (hs.dst (by simpa [Nat.blt_eq] using hd) (.v _))
theorem TL.storeRow {T g off o n i e es : Nat} {x y : Operand} {d : D} {v : Value} {xs : List (List D)} {c c' ds : List D} (hx : opD env x = some (.v (.pointer (some ⟨g, off, none⟩)))) (hv : v.ownBlock = some g) (hoff : off = i * es + o) (hy : opD env y = some d) (hc : CellsD d ds)
    (hn : ∀ w, (sizeOf T).run K.P w = .ok n w) (hl : ds.length = n) (hu : UpdR (.row v e es xs) (.row v e es (xs.set i c')) H H') (hi : xs[i]? = some c) (hp : PutR o ds c c')
    (h : TL K ops rest Q env H') : TL K ops (⟨none, .store T x y, ty, pos, af, none⟩ :: rest) Q env H := fun a w hs => by
  unfold wpListIn
  rw [if_pos (by rfl)]
  have e1 := Rep.of_v (hs.eval hx)
  obtain ⟨h1, h2⟩ := hc.rep (hs.eval hy)
  obtain ⟨vals, hown, hxe, hj⟩ := row_ok hs.heap hu.mem
  obtain ⟨p1, p2⟩ := hp.spec
  have hcl : c.length = es := hxe c (List.mem_of_getElem? hi)
  have hil : i < xs.length := (List.getElem?_eq_some_iff.1 hi).1
  have hle : i * es + es ≤ xs.length * es := by
    have := Nat.mul_le_mul_right es (show i + 1 ≤ xs.length from hil)
    rwa [Nat.add_mul, Nat.one_mul] at this
  rcases hown.2 with ⟨hnil, hn0⟩ | ⟨g', cap, cur, hveq, _, hg, hnc, hcm, hcs, htake⟩
  · rw [hn0] at hil; omega
  have hgg : g' = g := by rw [hveq] at hv; simpa [Value.ownBlock] using hv
  subst hgg
  have hcap : xs.length * es ≤ cap * es := Nat.mul_le_mul_right es hnc
  have hlen : (a.eval y).cells.toList.length = ds.length := by rw [Array.length_toList]; exact h1
  have honce : ∀ u ∈ (a.eval y).cells.toList, u.oneCell' = true := fun u hu => by
    obtain ⟨j, hju⟩ := List.mem_iff_getElem?.1 hu
    have hlt : j < ds.length := by rw [← hlen]; exact (List.getElem?_eq_some_iff.1 hju).1
    exact (h2 j _ u (List.getElem?_eq_getElem hlt) (by rw [← toList_getElem?]; exact hju)).1
  have hst := run_storeCells_at (P := K.P) g' off e (a.eval y).cells.toList 0 cur w hg (by rw [hlen, hcs, hoff]; omega) honce
  rw [hlen] at hst
  simp only [Nat.add_zero] at hst
  have e3 : (execOp a.eval ⟨none, .store T x y, ty, pos, af, none⟩).run K.P w = .ok .skip (w.setRow g' (cur.toList.take off ++ (a.eval y).cells.toList ++ cur.toList.drop (off + ds.length)).toArray) := by
    simp [execOp, Instr.storeAt, e1, Instr.sureAddr, storeVar, hn, h1, hl, hst]
  refine wpIn_ok (fun _ h => by cases h) e3 ?_
  have k : Kept (fun x => (Blk.row v e es xs).blk = some x) w (w.setRow g' (cur.toList.take off ++ (a.eval y).cells.toList ++ cur.toList.drop (off + ds.length)).toArray) :=
    ⟨rfl, rfl, rfl, by simp [World.setRow], fun j _ hn => setRow_other w g' j _ (fun e => hn (by rw [e]; exact hv))⟩
  have hbb : ∀ g'', (Blk.row v e es (xs.set i c')).blk = some g'' → (Blk.row v e es xs).blk = some g'' ∨ w.heap.size ≤ g'' := fun g'' h => .inl h
  have hrep : ∀ {d u}, Rep w (both K.F H) d u → Rep _ (both K.F H') d u := fun hr => hs.rep_upd hu hbb k hr
  have hc'l : c'.length = es := by rw [p2]; simp only [List.length_append, List.length_take, List.length_drop]; omega
  have hvl : vals.length = xs.length * es := hown.1
  have hnl : (cur.toList.take off ++ (a.eval y).cells.toList ++ cur.toList.drop (off + ds.length)).length = cap * es := by
    simp only [List.length_append, List.length_take, List.length_drop, Array.length_toList, h1, hcs]; omega
  refine h _ _ (Sat.upd (b := .row v e es xs) (b' := .row v e es (xs.set i c')) hs hu hbb k ⟨(cur.toList.take off ++ (a.eval y).cells.toList ++ cur.toList.drop (off + ds.length)).take (xs.length * es), ⟨?_, .inr ⟨g', cap, _, ?_, Nat.zero_le _, setRow_heap w g' cur _ e _ hg, ?_, hcm, by simpa using hnl, ?_⟩⟩, ?_, ?_⟩)
  · rw [List.length_take, hnl, List.length_set]; omega
  · rw [List.length_set]; exact hveq
  · rw [List.length_set]; exact hnc
  · rw [List.length_set]
  · intro z hz
    rcases List.mem_or_eq_of_mem_set hz with h | h
    · exact hxe z h
    · rw [h]; exact hc'l
  · intro j d' u' hd' hu'
    have hes : 0 < es := by
      rcases Nat.eq_zero_or_pos es with h0 | h0
      · subst h0
        have : (xs.set i c').flatten.length = (xs.set i c').length * 0 := flatten_len _ fun z hz => by
          rcases List.mem_or_eq_of_mem_set hz with h | h
          · exact hxe z h
          · rw [h]; exact hc'l
        have := (List.getElem?_eq_some_iff.1 hd').1
        omega
      · exact h0
    have hset : ∀ z ∈ xs.set i c', z.length = es := fun z hz => by
      rcases List.mem_or_eq_of_mem_set hz with h | h
      · exact hxe z h
      · rw [h]; exact hc'l
    have hjl : j < xs.length * es := by
      have := (List.getElem?_eq_some_iff.1 hd').1
      rw [flatten_len _ hset, List.length_set] at this
      exact this
    rw [flatten_get hes _ hset] at hd'
    rw [List.getElem?_take_of_lt hjl] at hu'
    have hold : ∀ d'', xs.flatten[j]? = some d'' → (j < off ∨ off + ds.length ≤ j) → u'.oneCell' = true ∧ Rep _ (both K.F H') d'' u' := fun d'' hd'' hout => by
      have hcur : cur.toList[j]? = some u' := by
        rcases hout with ho | ho
        · rw [List.append_assoc, List.getElem?_append_left (by rw [List.length_take, Array.length_toList, hcs]; omega), List.getElem?_take_of_lt ho] at hu'
          exact hu'
        · rw [List.getElem?_append_right (by simp only [List.length_append, List.length_take, Array.length_toList, h1, hcs]; omega), List.getElem?_drop] at hu'
          simp only [List.length_append, List.length_take, Array.length_toList, h1, hcs] at hu'
          rw [show off + ds.length + (j - (min off (cap * es) + ds.length)) = j by omega] at hu'
          exact hu'
      have hv' : vals[j]? = some u' := by rw [← htake, List.getElem?_take_of_lt hjl]; exact hcur
      obtain ⟨q1, q2⟩ := hj j d'' u' hd'' hv'
      exact ⟨q1, hrep q2⟩
    by_cases hji : j / es = i
    · rw [hji, List.getElem?_set_self hil] at hd'
      simp only [Option.bind_some] at hd'
      have hjj : j = i * es + j % es := by rw [← hji, Nat.mul_comm]; exact (Nat.div_add_mod j es).symm
      have hmod : j % es < es := Nat.mod_lt _ hes
      rw [p2] at hd'
      by_cases q1 : j % es < o
      · rw [List.append_assoc, List.getElem?_append_left (by rw [List.length_take]; omega), List.getElem?_take_of_lt q1] at hd'
        refine hold d' ?_ (.inl (by omega))
        rw [flatten_get hes xs hxe, hji, hi]; exact hd'
      · by_cases q2 : j % es < o + ds.length
        · rw [List.append_assoc, List.getElem?_append_right (by rw [List.length_take]; omega), List.getElem?_append_left (by rw [List.length_take]; omega), List.length_take] at hd'
          rw [List.append_assoc, List.getElem?_append_right (by rw [List.length_take, Array.length_toList, hcs]; omega), List.getElem?_append_left (by rw [List.length_take, Array.length_toList, hcs, hlen]; omega), List.length_take, Array.length_toList, hcs] at hu'
          have ee : j - min off (cap * es) = j % es - min o c.length := by omega
          rw [ee] at hu'
          obtain ⟨r1, r2⟩ := h2 _ d' u' hd' (by rw [← toList_getElem?]; exact hu')
          exact ⟨r1, hrep r2⟩
        · rw [List.getElem?_append_right (by simp only [List.length_append, List.length_take]; omega), List.getElem?_drop] at hd'
          simp only [List.length_append, List.length_take] at hd'
          refine hold d' ?_ (.inr (by omega))
          rw [flatten_get hes xs hxe, hji, hi]
          rw [show o + ds.length + (j % es - (min o c.length + ds.length)) = j % es by omega] at hd'
          exact hd'
    · rw [List.getElem?_set_ne (fun e => hji e.symm)] at hd'
      refine hold d' (by rw [flatten_get hes xs hxe]; exact hd') ?_
      have hjj : j = j / es * es + j % es := by rw [Nat.mul_comm]; exact (Nat.div_add_mod j es).symm
      have hmod : j % es < es := Nat.mod_lt _ hes
      rcases Nat.lt_or_ge (j / es) i with hlt | hge
      · left
        have := Nat.mul_le_mul_right es (show j / es + 1 ≤ i from hlt)
        rw [Nat.add_mul, Nat.one_mul] at this
        omega
      · right
        have := Nat.mul_le_mul_right es (show i + 1 ≤ j / es by omega)
        rw [Nat.add_mul, Nat.one_mul] at this
        omega
end
section
variable {P : Program} {H : Hp} {env : Env} {dst : Option Tmp} {ty : TypeId} {pos : String} {af : Array Edge} {gd : Option (Nat × Bool)} {t : TypeId} {x y : Operand}
theorem row_cells {w : World} {F : Nat → Prop} (hh : HeapOK w (both F H) H) {v : Value} {e es g i o : Nat} {xs : List (List D)} {c cs' : List D} (hm : Blk.row v e es xs ∈ H) (hes : 0 < es) (hv : v.ownBlock = some g) (hi : xs[i]? = some c) (hd : DropR o c cs') :
    ∃ val : Nat → Value, ∀ (j : Nat) (d : D), cs'[j]? = some d → w.cell? ⟨g, i * es + o + j, none⟩ = some (val j) ∧ (val j).oneCell' = true ∧ Rep w (both F H) d (val j) := by
  obtain ⟨vals, hown, hxe, hj⟩ := row_ok hh hm
  have hcl : c.length = es := hxe c (List.mem_of_getElem? hi)
  have hil : i < xs.length := (List.getElem?_eq_some_iff.1 hi).1
  have hle : i * es + es ≤ xs.length * es := by
    have := Nat.mul_le_mul_right es (show i + 1 ≤ xs.length from hil)
    rwa [Nat.add_mul, Nat.one_mul] at this
  rcases hown.2 with ⟨hnil, hn0⟩ | ⟨g', cap, cur, hveq, _, hg, hnc, hcm, hcs, htake⟩
  · rw [hn0] at hil; omega
  have hgg : g' = g := by rw [hveq] at hv; simpa [Value.ownBlock] using hv
  subst hgg
  refine ⟨fun j => vals.getD (i * es + o + j) undef, fun j d hdj => ?_⟩
  have hcj : c[o + j]? = some d := by rw [← hd.get]; exact hdj
  have hlt : o + j < es := by rw [← hcl]; exact (List.getElem?_eq_some_iff.1 hcj).1
  have hfl : xs.flatten[i * es + o + j]? = some d := by
    rw [flatten_get hes xs hxe]
    have e1 : (i * es + o + j) / es = i := by rw [Nat.add_assoc, Nat.mul_comm, Nat.mul_add_div hes, Nat.div_eq_of_lt hlt, Nat.add_zero]
    have e2 : (i * es + o + j) % es = o + j := by rw [Nat.add_assoc, Nat.mul_comm, Nat.mul_add_mod, Nat.mod_eq_of_lt hlt]
    rw [e1, e2, hi]; exact hcj
  have hvl : vals.length = xs.length * es := hown.1
  have hv' : vals[i * es + o + j]? = some (vals.getD (i * es + o + j) undef) := by
    rw [List.getElem?_eq_getElem (by omega)]
    simp [show i * es + o + j < vals.length by omega]
  obtain ⟨q1, q2⟩ := hj _ d _ hfl hv'
  refine ⟨?_, q1, q2⟩
  rw [cell_of_row w g' _ cur e (0, 0) hg, ← hv', ← htake, List.getElem?_take_of_lt (by omega)]
  simp
theorem pure_load1_row {g off o i e es : Nat} {v : Value} {xs : List (List D)} {c cs' : List D} {d : D} (ht : OneT P t) (hes : 0 < es) (hx : opD env x = some (.v (.pointer (some ⟨g, off, none⟩)))) (hv : v.ownBlock = some g) (hm : Blk.row v e es xs ∈ H) (hoff : off = i * es + o) (hi : xs[i]? = some c) (h1 : DropR o c (d :: cs')) :
    Pure P H ⟨dst, .load t x, ty, pos, af, gd⟩ env d := pure_of fun w F ρ hh h => by
  have e1 := Rep.of_v (h x (by simp [Op.operands]) _ hx)
  obtain ⟨val, hval⟩ := row_cells hh hm hes hv hi h1
  obtain ⟨a1, a2, a3⟩ := hval 0 d rfl
  rw [Nat.add_zero, ← hoff] at a1
  exact ⟨val 0, by simp [execOp, e1, Instr.loadAt, Instr.sureAddr, loadVar, ht.one, a1], a3⟩
theorem pure_load_row {g off o i n e es : Nat} {v : Value} {xs : List (List D)} {c cs' ds : List D} (ht : AggT P t n) (hes : 0 < es) (hx : opD env x = some (.v (.pointer (some ⟨g, off, none⟩)))) (hv : v.ownBlock = some g) (hm : Blk.row v e es xs ∈ H) (hoff : off = i * es + o) (hi : xs[i]? = some c) (h1 : DropR o c cs') (h2 : TakeR n cs' ds) :
    Pure P H ⟨dst, .load t x, ty, pos, af, gd⟩ env (.agg ds) := pure_of fun w F ρ hh h => by
  have e1 := Rep.of_v (h x (by simp [Op.operands]) _ hx)
  obtain ⟨val, hval⟩ := row_cells hh hm hes hv hi h1
  have hds : ∀ j, j < n → ∃ d, ds[j]? = some d ∧ cs'[j]? = some d := fun j hj => by
    have hl := h2.get.1
    exact ⟨ds[j]'(by omega), List.getElem?_eq_getElem (by omega), h2.get.2 _ _ (List.getElem?_eq_getElem (by omega))⟩
  have hc : ∀ j, j < n → w.cell? ((⟨g, off, none⟩ : Addr).add j) = some (val j) := fun j hj => by
    obtain ⟨d, _, hc⟩ := hds j hj
    rw [own_add, hoff]; exact (hval j d hc).1
  refine ⟨.agg ((List.range n).map val).toArray, by simp [execOp, e1, Instr.loadAt, Instr.sureAddr, loadVar, ht.agg, ht.size, run_loadCells_vals hc], .agg ds _ (by simp [h2.get.1]) (fun j u hu => ?_) (fun j d u hd hu => ?_)⟩
  · have hjn : j < n := by
      rcases Nat.lt_or_ge j n with h | h
      · exact h
      · simp [h] at hu
    obtain ⟨d, _, hcd⟩ := hds j hjn
    have : u = val j := by simpa [hjn] using hu.symm
    subst this
    exact (hval j d hcd).2.1
  · have hjn : j < n := by rw [← h2.get.1]; exact (List.getElem?_eq_some_iff.1 hd).1
    have : u = val j := by simpa [hjn] using hu.symm
    subst this
    exact (hval j d (h2.get.2 j d hd)).2.2
end
end Go.Ob
/- Keys of maps: pairs of ints, as an array or a struct; ints. -/
set_option linter.unusedVariables false
set_option linter.unusedSimpArgs false
set_option linter.unusedSectionVars false
namespace Go.Ob
open Go.RowKit
def pairV (a b : Int) : Value := .agg #[.int .i64 a, .int .i64 b]
theorem pairV_inj {a b c d : Int} (h : pairV a b = pairV c d) : a = c ∧ b = d := by
  unfold pairV at h
  injection h with h
  injection h with h
  injection h with h1 h2
  injection h1 with _ h1
  injection h2 with h2 _
  injection h2 with _ h2
  exact ⟨h1, h2⟩
def isPair (v : Value) : Prop := ∃ a b, v = pairV a b
theorem sameNow_agg (d : TypeDesc) (a : Array Value) (v : Value) : Instr.sameNow d (.agg a) v = none := by
  cases d <;> rfl
theorem KeyT.pair {P : Program} {k : TypeId} {dsc : TypeDesc} (hu : P.underlying k = some dsc) (hcheck : ∀ (em : Bool) (a b : Int) (w : World), (Instr.checkKey em 10000 k (pairV a b)).run P w = .ok () w)
    (heq : ∀ (w : World) (a b c d : Int), (Op.equal k (pairV a b) (pairV c d)).run P w = .ok (decide (a = c ∧ b = d)) w) : KeyT P k isPair where
  check := by rintro w em v ⟨a, b, rfl⟩; exact hcheck em a b w
  stays := by
    rintro w v ⟨a, b, rfl⟩
    have : Instr.sameBits 10000 (pairV a b) (pairV a b) = true := by
      show Instr.sameBits (9999 + 1) (.agg _) (.agg _) = true
      simp [Instr.sameBits]
    simp [Instr.keyThatStays, this]
  find := by
    rintro w v es ⟨a, b, rfl⟩ hgood
    have ask : ∀ (es : List MapEntry) (i : Nat), (∀ e ∈ es, isPair e.key) → ((Instr.findAsking k (pairV a b) es i).run P w = .ok none w ∧ ∀ e ∈ es, e.key ≠ pairV a b) ∨
        ∃ j e, (Instr.findAsking k (pairV a b) es i).run P w = .ok (some (i + j, e.val)) w ∧ es[j]? = some e ∧ e.key = pairV a b := by
      intro es
      induction es with
      | nil => intro i _; exact .inl ⟨rfl, by simp⟩
      | cons e es ih =>
        intro i hg
        obtain ⟨c, d, hcd⟩ := hg e (by simp)
        by_cases hh : a = c ∧ b = d
        · refine .inr ⟨0, e, ?_, rfl, by rw [hcd, hh.1, hh.2]⟩
          simp [Instr.findAsking, hcd, heq, hh]
        · have hne : e.key ≠ pairV a b := fun h => hh (by rw [hcd] at h; obtain ⟨h1, h2⟩ := pairV_inj h; exact ⟨h1.symm, h2.symm⟩)
          have hrun : (Instr.findAsking k (pairV a b) (e :: es) i).run P w = (Instr.findAsking k (pairV a b) es (i + 1)).run P w := by
            simp [Instr.findAsking, hcd, heq, hh]
          rcases ih (i + 1) (fun e he => hg e (by simp [he])) with ⟨h1, h2⟩ | ⟨j, e', h1, h2, h3⟩
          · refine .inl ⟨by rw [hrun, h1], fun e' he' => ?_⟩
            rcases List.mem_cons.1 he' with rfl | he'
            · exact hne
            · exact h2 e' he'
          · exact .inr ⟨j + 1, e', by rw [hrun, h1]; congr 3; omega, by simpa using h2, h3⟩
    have hfk : (Instr.findKey k (pairV a b) es).run P w = (Instr.findAsking k (pairV a b) es 0).run P w := by
      cases es with
      | nil => simp [Instr.findKey, run_underlying hu, Instr.findNow, Instr.findAsking]
      | cons e es => simp [Instr.findKey, run_underlying hu, Instr.findNow, pairV, sameNow_agg]
    rw [hfk]
    rcases ask es 0 hgood with h | ⟨j, e, h1, h2, h3⟩
    · exact .inl h
    · exact .inr ⟨j, e, by rw [h1, Nat.zero_add], h2, h3⟩
theorem equal_array2 {P : Program} {k e : TypeId} (hu : P.underlying k = some (.array 2 e)) (he : P.underlying e = some (.int .i64)) (hs : ∀ w, (sizeOf e).run P w = .ok 1 w) (hag : ∀ w, (isAgg e).run P w = .ok false w)
    (w : World) (a b c d : Int) : (Op.equal k (pairV a b) (pairV c d)).run P w = .ok (decide (a = c ∧ b = d)) w := by
  have h3 : ∀ n : Nat, ∀ x y, (Op.equalIn (n + 1) e (.int .i64 x) (.int .i64 y)).run P w = .ok (x == y) w := fun n x y => run_equalIn_int w n e .i64 .i64 x y he
  have hp : ∀ (xs : Array Value) (i : Nat) (v : Value), xs[i]? = some v → (part e xs i).run P w = .ok v w := fun xs i v hv => by simp [part, hag, hv]
  show (Op.equalIn (9998 + 2) k (.agg _) (.agg _)).run P w = _
  rw [Op.equalIn]
  simp only [Sem.run_bind, run_underlying hu, Result.andThen_ok, hs]
  rw [Std.Legacy.Range.forIn_eq_forIn_range']
  simp [List.range', hp, h3]
  by_cases h1 : a = c <;> by_cases h2 : b = d <;> simp [h1, h2]
end Go.Ob
/- Conversions between kinds of ints, shifts, quotients. -/
set_option linter.unusedVariables false
set_option linter.unusedSimpArgs false
set_option linter.unusedSectionVars false
namespace Go.Ob
open Go.RowKit
def Fits (k : IntKind) (n : Int) : Prop := k.wrap n = n
theorem fit_i64 {n : Int} (h1 : -9223372036854775808 ≤ n) (h2 : n ≤ 9223372036854775807) : Fits .i64 n := IntWalk.i64_in n ⟨h1, h2⟩
theorem fit_u64 {n : Int} (h1 : 0 ≤ n) (h2 : n ≤ 18446744073709551615) : Fits .u64 n := IntWalk.u64_in n ⟨h1, h2⟩
section
variable {P : Program} {H : Hp} {env : Env} {dst : Option Tmp} {ty : TypeId} {pos : String} {af : Array Edge} {gd : Option (Nat × Bool)} {t t2 : TypeId} {x y : Operand}
theorem pure_conv {s d : TypeId} {k0 k k1 : IntKind} {a : Int} (hs : P.underlying s = some (.int k0)) (hd : P.underlying d = some (.int k)) (hx : opD env x = some (.v (.int k1 a))) (hr : Fits k a) :
    Pure P H ⟨dst, .convert s d x, ty, pos, af, gd⟩ env (.v (.int k a)) := pure_of fun w _ ρ _ h => by
  have e1 := Rep.of_v (h x (by simp [Op.operands]) _ hx)
  have hw : k.wrap a = a := hr
  exact ⟨_, by simp [execOp, convert, run_underlying hs, run_underlying hd, e1, Conv.intToInt, hw], .v _⟩
theorem pure_shr {k yk : IntKind} {a n : Int} (hx : opD env x = some (.v (.int k a))) (hy : opD env y = some (.v (.int yk n))) (h0 : 0 ≤ n) (h1 : n.toNat ≤ k.bits) :
    Pure P H ⟨dst, .binOp .shr t x y t2, ty, pos, af, gd⟩ env (.v (.int k (a / 2 ^ n.toNat))) := pure_bin hx hy fun w => by
  have hm : min n.toNat k.bits = n.toNat := by omega
  have hp : (0 : Int) ≤ 2 ^ n.toNat := Int.le_of_lt (Int.pow_pos (by omega))
  simp [eqGuard, binOp, Op.shift, show ¬ n < 0 by omega, hm, Int.fdiv_eq_ediv_of_nonneg _ hp]
theorem pure_shrl {k yk : IntKind} {a n m : Int} (hm : (2 : Int) ^ n.toNat = m) (hx : opD env x = some (.v (.int k a))) (hy : opD env y = some (.v (.int yk n))) (h0 : 0 ≤ n) (h1 : n.toNat ≤ k.bits) :
    Pure P H ⟨dst, .binOp .shr t x y t2, ty, pos, af, gd⟩ env (.v (.int k (a / m))) := by subst hm; exact pure_shr hx hy h0 h1
end
section
variable {env : Env} {H : Hp} {P : Program}
theorem ret2 {t1 t2 : Nat} {r d1 d2 : D} {e : Exit} (he : e = .ret ∨ e = .normal) (h1 : env t1 = some d1) (h2 : env t2 = some d2) (h : D.tup [d1, d2] = r) : RetA P [ResultVar.tmp t1, .tmp t2].toArray (fun r' H' => r' = r ∧ H' = []) e env H :=
  ⟨he, [d1, d2], .tmp h1 (.tmp h2 .nil), [], List.nil_sublist _, h, rfl⟩
theorem ret3 {t1 t2 t3 : Nat} {r d1 d2 d3 : D} {e : Exit} (he : e = .ret ∨ e = .normal) (h1 : env t1 = some d1) (h2 : env t2 = some d2) (h3 : env t3 = some d3) (h : D.tup [d1, d2, d3] = r) : RetA P [ResultVar.tmp t1, .tmp t2, .tmp t3].toArray (fun r' H' => r' = r ∧ H' = []) e env H :=
  ⟨he, [d1, d2, d3], .tmp h1 (.tmp h2 (.tmp h3 .nil)), [], List.nil_sublist _, h, rfl⟩
theorem ret4 {t1 t2 t3 t4 : Nat} {r d1 d2 d3 d4 : D} {e : Exit} (he : e = .ret ∨ e = .normal) (h1 : env t1 = some d1) (h2 : env t2 = some d2) (h3 : env t3 = some d3) (h4 : env t4 = some d4) (h : D.tup [d1, d2, d3, d4] = r) : RetA P [ResultVar.tmp t1, .tmp t2, .tmp t3, .tmp t4].toArray (fun r' H' => r' = r ∧ H' = []) e env H :=
  ⟨he, [d1, d2, d3, d4], .tmp h1 (.tmp h2 (.tmp h3 (.tmp h4 .nil))), [], List.nil_sublist _, h, rfl⟩
theorem ret_cell {t T n g T' : Nat} {cs : List D} {r : D} {e : Exit} (he : e = .ret ∨ e = .normal) (hT : AggT P T n) (h1 : env t = some (.v (.pointer (some ⟨g, 0, none⟩)))) (hm : Blk.box g T' cs ∈ H) (hl : Nat.beq cs.length n = true) (h : D.agg cs = r) :
    RetA P [ResultVar.cell t T].toArray (fun r' H' => r' = r ∧ H' = []) e env H :=
  ⟨he, [.agg cs], .cell hT h1 hm hl .nil, [], List.nil_sublist _, h, rfl⟩
theorem ret_cell_tmp {t T n g T' u : Nat} {cs : List D} {d r : D} {e : Exit} (he : e = .ret ∨ e = .normal) (hT : AggT P T n) (h1 : env t = some (.v (.pointer (some ⟨g, 0, none⟩)))) (hm : Blk.box g T' cs ∈ H) (hl : Nat.beq cs.length n = true)
    (h2 : env u = some d) (h : D.tup [.agg cs, d] = r) : RetA P [ResultVar.cell t T, .tmp u].toArray (fun r' H' => r' = r ∧ H' = []) e env H :=
  ⟨he, [.agg cs, d], .cell hT h1 hm hl (.tmp h2 .nil), [], List.nil_sublist _, h, rfl⟩
theorem retF_cell {t T n g T' : Nat} {cs : List D} {r : D} {e : Exit} (he : e = .ret ∨ e = .normal) (hT : AggT P T n) (h1 : env t = some (.v (.pointer (some ⟨g, 0, none⟩)))) (hm : Blk.box g T' cs ∈ H) (hl : Nat.beq cs.length n = true) (h : FrzR (· ∈ H) (.agg cs) r) :
    RetF P [ResultVar.cell t T].toArray r e env H := ⟨he, [.agg cs], .cell hT h1 hm hl .nil, h⟩
theorem retF2 {t1 t2 : Nat} {r d1 d2 : D} {e : Exit} (he : e = .ret ∨ e = .normal) (h1 : env t1 = some d1) (h2 : env t2 = some d2) (h : FrzR (· ∈ H) (D.tup [d1, d2]) r) : RetF P [ResultVar.tmp t1, .tmp t2].toArray r e env H :=
  ⟨he, [d1, d2], .tmp h1 (.tmp h2 .nil), h⟩
end
end Go.Ob
/- Maps from pairs of ints to ints. -/
set_option linter.unusedVariables false
set_option linter.unusedSimpArgs false
set_option linter.unusedSectionVars false
namespace Go.Ob
open Go.RowKit
inductive FrzL (M : Blk → Prop) : List D → List D → Prop where
  | nil : FrzL M [] []
  | cons {d d' : D} {ds ds' : List D} : FrzR M d d' → FrzL M ds ds' → FrzL M (d :: ds) (d' :: ds')
theorem FrzL.spec {M : Blk → Prop} {ds ds' : List D} (h : FrzL M ds ds') : ds.length = ds'.length ∧ ∀ (j : Nat) (d d' : D), ds[j]? = some d → ds'[j]? = some d' → FrzR M d d' := by
  induction h with
  | nil => exact ⟨rfl, fun j d d' h => by simp at h⟩
  | cons h1 h2 ih =>
    refine ⟨by simp [ih.1], fun j d d' hd hd' => ?_⟩
    cases j with
    | zero => simp at hd hd'; subst hd; subst hd'; exact h1
    | succ j => exact ih.2 j d d' (by simpa using hd) (by simpa using hd')
theorem FrzR.aggL {M : Blk → Prop} {ds ds' : List D} (h : FrzL M ds ds') : FrzR M (.agg ds) (.agg ds') := .agg _ _ h.spec.1 h.spec.2
theorem FrzR.tupL {M : Blk → Prop} {ds ds' : List D} (h : FrzL M ds ds') : FrzR M (.tup ds) (.tup ds') := .tup _ _ h.spec.1 h.spec.2
theorem FrzR.rowS {M : Blk → Prop} {v : Value} {e es : Nat} {xs : List (List D)} (hm : M (.row v e es xs)) (hes : 0 < es) (hl : ∀ x ∈ xs, x.length = es) : FrzR M (.v v) (.sl es xs) :=
  .row v e es xs xs hm hes rfl hl fun j d d' h1 h2 => by rw [h1] at h2; cases h2; exact .same d
theorem FrzR.mpS {M : Blk → Prop} {g : Nat} {ks : List Value} {ds : List D} (hm : M (.mp g ks ds)) : FrzR M (.v (.map (some g))) (.mp ks ds) :=
  .mp g ks ds ds hm rfl fun j d d' h1 h2 => by rw [h1] at h2; cases h2; exact .same d
theorem FrzR.boxS {M : Blk → Prop} {g t : Nat} {cs : List D} (hm : M (.box g t cs)) (hne : cs ≠ []) : FrzR M (.v (.pointer (some ⟨g, 0, none⟩))) (.at_ cs) :=
  .box g t 0 cs cs cs hm (.zero _) hne rfl fun j d d' h1 h2 => by rw [h1] at h2; cases h2; exact .same d
structure ArrT (P : Program) (t n e es : Nat) : Prop where
  under : P.underlying t = some (.array n e)
  size : ∀ w, (sizeOf e).run P w = .ok es w
theorem pure_build_arr {P : Program} {H : Hp} {env : Env} {dst : Option Tmp} {ty : TypeId} {pos : String} {af : Array Edge} {gd : Option (Nat × Bool)} {t n e es : Nat} {ps : Array (Nat × Operand)} {zs : List Value} {cs : List D} (hp : ArrT P t n e es) (hz : ZeroT P t zs)
    (hf : FillR (fun (i : Nat) => some (i * es, es)) env ps.toList (zs.map .v) cs) : Pure P H ⟨dst, .build t ps, ty, pos, af, gd⟩ env (.agg cs) := pure_of fun w F ρ hh hx => by
  obtain ⟨z, hzr, hzc⟩ := hz.zero
  obtain ⟨us, h1, h2, h3⟩ := run_fill (w := w) (o := both F H) (ρ := ρ) hf (fun p hp dx hd => hx p.2 (by
      simp only [Op.operands]
      have : p.2 ∈ ps.toList.map (·.2) := List.mem_map.2 ⟨p, hp, rfl⟩
      simpa using this) dx hd) zs.toArray (by simp) (fun j d u hd hu => by
      simp only [List.getElem?_map, Option.map_eq_some_iff] at hd
      obtain ⟨v, hv, rfl⟩ := hd
      have : v = u := by simpa [hv] using hu
      subst this
      exact ⟨List.all_eq_true.1 hz.one v (List.mem_of_getElem? hv), .v _⟩)
  refine ⟨.agg us, ?_, .agg cs us h2 (fun j u hu => ?_) (fun j d u hd hu => (h3 j d u hd hu).2)⟩
  · have e1 : (Array.map (fun x => match x with | (i, x) => (i, ρ x)) ps).toList = ps.toList.map fun (i, x) => (i, ρ x) := by simp
    simp only [execOp, Instr.build, Sem.run_bind, hzr, Result.andThen_ok, run_underlying hp.under, hp.size, hzc, e1]
    rw [h1]
    rfl
  · have hlt : j < cs.length := by rw [← h2]; exact (Array.getElem?_eq_some_iff.1 hu).1
    exact (h3 j _ u (List.getElem?_eq_getElem hlt) hu).1
abbrev PM := List ((Int × Int) × Int)
def look (m : PM) (k : Int × Int) : Option Int := match m with
  | [] => none
  | p :: m => if p.1 = k then some p.2 else look m k
def insM (m : PM) (k : Int × Int) (v : Int) : PM := match m with
  | [] => [(k, v)]
  | p :: m => if p.1 = k then (k, v) :: m else p :: insM m k v
def keysM (m : PM) : List Value := m.map fun p => pairV p.1.1 p.1.2
def valsM (m : PM) : List D := m.map fun p => .v (.int .i64 p.2)
def NodupM (m : PM) : Prop := (m.map (·.1)).Nodup
theorem keysM_good (m : PM) : ∀ k ∈ keysM m, isPair k := by
  intro k hk
  simp only [keysM, List.mem_map] at hk
  obtain ⟨p, _, rfl⟩ := hk
  exact ⟨_, _, rfl⟩
theorem NodupM.keys {m : PM} (h : NodupM m) : (keysM m).Nodup := by
  unfold NodupM at h
  unfold keysM
  induction m with
  | nil => simp
  | cons p m ih =>
    simp only [List.map_cons, List.nodup_cons] at h ⊢
    refine ⟨fun hm => h.1 ?_, ih h.2⟩
    simp only [List.mem_map] at hm ⊢
    obtain ⟨q, hq, he⟩ := hm
    obtain ⟨h1, h2⟩ := pairV_inj he
    exact ⟨q, hq, Prod.ext h1 h2⟩
theorem look_rel (m : PM) (k : Int × Int) : LookR (pairV k.1 k.2) (keysM m) (valsM m) ((look m k).map fun n => .v (.int .i64 n)) := by
  induction m with
  | nil => exact .nil
  | cons p m ih =>
    unfold look
    by_cases hp : p.1 = k
    · rw [if_pos hp]
      subst hp
      exact .here
    · rw [if_neg hp]
      exact .there (fun e => hp (Prod.ext (pairV_inj e).1 (pairV_inj e).2)) ih
theorem ins_rel (m : PM) (k : Int × Int) (v : Int) : SetR (pairV k.1 k.2) (.v (.int .i64 v)) (keysM m) (valsM m) (keysM (insM m k v)) (valsM (insM m k v)) := by
  induction m with
  | nil => exact .nil
  | cons p m ih =>
    unfold insM
    by_cases hp : p.1 = k
    · rw [if_pos hp]
      subst hp
      exact .here
    · rw [if_neg hp]
      exact .there (fun e => hp (Prod.ext (pairV_inj e).1 (pairV_inj e).2)) ih
theorem mem_ins {m : PM} {k : Int × Int} {v : Int} {p : (Int × Int) × Int} (h : p ∈ insM m k v) : p = (k, v) ∨ p ∈ m := by
  induction m with
  | nil => simpa [insM] using h
  | cons q m ih =>
    unfold insM at h
    by_cases hq : q.1 = k
    · rw [if_pos hq] at h
      rcases List.mem_cons.1 h with h | h
      · exact .inl h
      · exact .inr (by simp [h])
    · rw [if_neg hq] at h
      rcases List.mem_cons.1 h with h | h
      · exact .inr (by simp [h])
      · exact (ih h).imp id (fun h => by simp [h])
theorem NodupM.ins {m : PM} (h : NodupM m) (k : Int × Int) (v : Int) : NodupM (insM m k v) := by
  unfold NodupM at *
  induction m with
  | nil => simp [insM]
  | cons q m ih =>
    simp only [List.map_cons, List.nodup_cons] at h
    unfold insM
    by_cases hq : q.1 = k
    · rw [if_pos hq]
      subst hq
      simp only [List.map_cons, List.nodup_cons]
      exact h
    · rw [if_neg hq]
      simp only [List.map_cons, List.nodup_cons]
      refine ⟨fun hm => ?_, ih h.2⟩
      simp only [List.mem_map] at hm
      obtain ⟨p, hp, he⟩ := hm
      rcases mem_ins hp with h1 | h1
      · subst h1; exact hq he.symm
      · exact h.1 (List.mem_map.2 ⟨p, h1, he⟩)
theorem look_mem {m : PM} {k : Int × Int} {n : Int} (h : look m k = some n) : (k, n) ∈ m := by
  induction m with
  | nil => simp [look] at h
  | cons p m ih =>
    unfold look at h
    by_cases hp : p.1 = k
    · rw [if_pos hp] at h; cases h; subst hp; simp
    · rw [if_neg hp] at h; exact List.mem_cons_of_mem _ (ih h)
theorem look_ins (m : PM) (k k' : Int × Int) (v : Int) : look (insM m k v) k' = if k = k' then some v else look m k' := by
  induction m with
  | nil => simp [insM, look]
  | cons p m ih =>
    unfold insM
    by_cases hp : p.1 = k
    · rw [if_pos hp]
      subst hp
      simp only [look]
      by_cases hk : p.1 = k' <;> simp [hk]
    · rw [if_neg hp]
      simp only [look, ih]
      by_cases hk : p.1 = k'
      · have : ¬ k = k' := fun e => hp (hk.trans e.symm)
        simp [hk, this]
      · simp [hk]
section
variable {P : Program} {H : Hp} {env : Env} {dst : Option Tmp} {ty : TypeId} {pos : String} {af : Array Edge} {gd : Option (Nat × Bool)}
theorem pure_look {x y : Operand} {t kt et g : Nat} {m : PM} {a b : Int} (ht : MapT P t kt et (.int .i64 0) isPair) (hx : opD env x = some (.v (.map (some g)))) (hy : opD env y = some (.agg [.v (.int .i64 a), .v (.int .i64 b)]))
    (hnd : NodupM m) (hm : Blk.mp g (keysM m) (valsM m) ∈ H) :
    Pure P H ⟨dst, .lookup t x y true, ty, pos, af, gd⟩ env (.tup [.v (.int .i64 ((look m (a, b)).getD 0)), .v (.bool (look m (a, b)).isSome)]) := by
  have := pure_lookup_ok (dst := dst) (ty := ty) (pos := pos) (af := af) (gd := gd) ht hx hy (.agg _ [.int .i64 a, .int .i64 b] rfl) ⟨a, b, rfl⟩ (keysM_good m) hnd.keys hm (look_rel m (a, b))
  cases h : look m (a, b) <;> simpa [h] using this
end
section
variable {K : Ctx} {Q : Exit → Env → Hp → Prop} {env : Env} {H H' : Hp} {ops : Array Oper} {rest : List Oper} {ty : TypeId} {pos : String} {af : Array Edge}
theorem TL.insert {T kt et g : Nat} {x y v : Operand} {m : PM} {a b n : Int} (ht : MapT K.P T kt et (.int .i64 0) isPair) (hx : opD env x = some (.v (.map (some g)))) (hy : opD env y = some (.agg [.v (.int .i64 a), .v (.int .i64 b)])) (hv : opD env v = some (.v (.int .i64 n)))
    (hnd : NodupM m) (hu : UpdR (.mp g (keysM m) (valsM m)) (.mp g (keysM (insM m (a, b) n)) (valsM (insM m (a, b) n))) H H')
    (h : TL K ops rest Q env H') : TL K ops (⟨none, .mapUpdate T x y v, ty, pos, af, none⟩ :: rest) Q env H :=
  TL.mapUpdate ht hx hy hv (.agg _ [.int .i64 a, .int .i64 b] rfl) ⟨a, b, rfl⟩ (keysM_good m) hnd.keys (ins_rel m (a, b) n) hu h
end
end Go.Ob
/- From arbitrary arguments, as the given statement reads them, to data; from the contract over data to the given statement's walk. -/
set_option linter.unusedVariables false
set_option linter.unusedSimpArgs false
set_option linter.unusedSectionVars false
namespace Go.Ob
open Go.RowKit Go.ChangeShapes Go.WideShapes Go.Deep
def laidF (P : Program) : Nat → List Field → Option Nat
  | off, [] => some off
  | off, f :: fs => if f.offset = off then laidF P (off + P.cellsOf f.type) fs else none
def plainT (P : Program) (ts : List Nat) (t : Nat) : Bool :=
  match P.underlying t with
    | some .bool | some (.int _) | some .string => true
    | some (.slice e) => ts.contains e && decide (0 < P.cellsOf e)
    | some (.struct fs) => fs.toList.all (fun f => ts.contains f.type) && laidF P 0 fs.toList == some (P.cellsOf t)
    | _ => false
def plainS (P : Program) (ts : List Nat) : Bool := ts.all (plainT P ts)
def Typed (P : Program) : Nat → Nat → List D → Prop
  | 0, _, _ => False
  | n + 1, t, ds => match P.underlying t with
    | some .bool => ∃ b, ds = [.v (.bool b)]
    | some (.int k) => ∃ x, ds = [.v (.int k x)] ∧ (Lit.int k x).wf = true
    | some .string => ∃ s : ByteArray, ds = [.v (.string s)] ∧ s.size ≤ maxLen
    | some (.slice e) => ∃ xs, ds = [.sl (P.cellsOf e) xs] ∧ xs.length ≤ maxLen ∧ ∀ x ∈ xs, Typed P n e x ∧ x.length = P.cellsOf e
    | some (.struct fs) => ∃ parts : List (List D), ds = parts.flatten ∧ parts.length = fs.size ∧ ∀ (i : Nat) (f : Field) (p : List D), fs[i]? = some f → parts[i]? = some p → Typed P n f.type p
    | _ => False
def RepC (w : World) (ds : List D) (cs : List Value) : Prop :=
  ds.length = cs.length ∧ ∀ (j : Nat) (d : D) (u : Value), ds[j]? = some d → cs[j]? = some u → u.oneCell' = true ∧ Rep w no d u
theorem RepC.one {w : World} {d : D} {u : Value} (h1 : u.oneCell' = true) (h : Rep w no d u) : RepC w [d] [u] :=
  ⟨rfl, fun j d' u' hd hu => by
    match j with
    | 0 => simp only [List.getElem?_cons_zero, Option.some.injEq] at hd hu; subst hd; subst hu; exact ⟨h1, h⟩
    | _ + 1 => simp at hd⟩
theorem RepC.append {w : World} {ds ds' : List D} {cs cs' : List Value} (h : RepC w ds cs) (k : RepC w ds' cs') : RepC w (ds ++ ds') (cs ++ cs') :=
  ⟨by simp [h.1, k.1], fun j d u hd hu => by
    by_cases hj : j < ds.length
    · rw [List.getElem?_append_left hj] at hd
      rw [List.getElem?_append_left (by have := h.1; omega)] at hu
      exact h.2 j d u hd hu
    · rw [List.getElem?_append_right (by omega)] at hd
      rw [List.getElem?_append_right (by have := h.1; omega)] at hu
      have := h.1
      rw [this] at hd
      exact k.2 _ d u hd hu⟩
theorem parts_of {P : Program} {w : World} {T : Field → List D → Prop} {cs : List Value} : ∀ (fs : List Field) (off : Nat) (_ : laidF P off fs = some cs.length)
    (_ : ∀ f ∈ fs, ∃ ds, T f ds ∧ RepC w ds ((cs.drop f.offset).take (P.cellsOf f.type))),
    ∃ parts : List (List D), parts.length = fs.length ∧ (∀ (i : Nat) (f : Field) (p : List D), fs[i]? = some f → parts[i]? = some p → T f p) ∧ RepC w parts.flatten (cs.drop off)
  | [], off, hl, _ => ⟨[], rfl, fun i f p h => by simp at h, by
      simp only [laidF, Option.some.injEq] at hl
      simp [hl, RepC]⟩
  | f :: fs, off, hl, h => by
      simp only [laidF] at hl
      split at hl
      · rename_i ho
        obtain ⟨ds, hT, hr⟩ := h f (by simp)
        obtain ⟨parts, hp, hq, hrr⟩ := parts_of fs _ hl (fun g hg => h g (by simp [hg]))
        refine ⟨ds :: parts, by simp [hp], fun i g p hg hpp => ?_, ?_⟩
        · match i with
          | 0 => simp at hg hpp; subst hg; subst hpp; exact hT
          | i + 1 => simp at hg hpp; exact hq i g p hg hpp
        · rw [List.flatten_cons]
          have := hr.append hrr
          rw [ho] at this
          have hc : (cs.drop off).take (P.cellsOf f.type) ++ cs.drop (off + P.cellsOf f.type) = cs.drop off := by
            rw [← List.drop_drop, List.take_append_drop]
          rwa [hc] at this
      · cases hl
theorem trodRep {H : Type} {enc : TypeId × Value → H} {P : Program} {w : World} {held : Bool} {ts : List Nat} (hps : plainS P ts = true) : ∀ (fuel : Nat) (t : Nat) (cs : List Value) (x : DataW H × List MemPlace),
    ts.contains t = true → DataW.trod enc P w 0 (fun _ => true) held fuel t cs = some x → ∃ ds, Typed P fuel t ds ∧ RepC w ds cs := by
  intro n
  induction n with
  | zero => intro t cs x _ h; simp [DataW.trod] at h
  | succ n ih =>
    intro t cs x hp h
    replace hp := List.all_eq_true.1 hps t (List.contains_iff_mem.1 hp)
    unfold plainT at hp
    unfold Typed
    split at hp
    · rename_i hu
      obtain ⟨b, rfl, _⟩ := DataW.trod_bool hu h
      exact ⟨_, ⟨b, rfl⟩, .one rfl (.v _)⟩
    · rename_i k hu
      obtain ⟨m, rfl, _, hw⟩ := DataW.trod_int hu h
      exact ⟨_, ⟨m, rfl, hw⟩, .one rfl (.v _)⟩
    · rename_i hu
      obtain ⟨s, rfl, _, hs⟩ := DataW.trod_string hu h
      exact ⟨_, ⟨s, rfl, hs⟩, .one rfl (.v _)⟩
    · rename_i e hu
      simp only [Bool.and_eq_true, decide_eq_true_eq] at hp
      rcases DataW.trod_slice hu h with ⟨rfl, _⟩ | ⟨a, len, cap, elems, rest, k, hk, rfl, _, _, hlc, hcap, hlen, hel, _, _⟩
      · exact ⟨_, ⟨[], rfl, by simp, fun _ h => by cases h⟩, .one rfl (.nil _)⟩
      · obtain rfl : k = n := by omega
        have hx : ∀ i, i < len → ∃ cs', w.cells? 0 (a.add (i * P.cellsOf e)) (P.cellsOf e) = some cs' ∧ ∃ y, DataW.trod enc P w 0 (fun _ => true) held k e cs' = some y := fun i hi => by
          have h1 := hel i hi
          rw [List.getElem?_eq_getElem (by omega)] at h1
          obtain ⟨cs', h2, h3⟩ := Option.bind_eq_some_iff.1 h1
          exact ⟨cs', h2, _, h3⟩
        obtain ⟨X, hX⟩ := choose_lt (α := List D × List Value) (n := len) (p := fun i X => w.cells? 0 (a.add (i * P.cellsOf e)) (P.cellsOf e) = some X.2 ∧ Typed P k e X.1 ∧ RepC w X.1 X.2) (fun i hi => by
          obtain ⟨cs', h1, y, h2⟩ := hx i hi
          obtain ⟨ds, h3, h4⟩ := ih _ _ _ hp.1 h2
          exact ⟨(ds, cs'), h1, h3, h4⟩)
        have hcl : ∀ i, i < len → (X i).2.length = P.cellsOf e := fun i hi => (World.cells?_some (hX i hi).1).2.1
        refine ⟨[.sl (P.cellsOf e) ((List.range len).map fun i => (X i).1)], ⟨_, rfl, by simp; omega, fun x hx => ?_⟩, .one rfl ?_⟩
        · obtain ⟨i, hi, rfl⟩ := List.mem_map.1 hx
          have hi := List.mem_range.1 hi
          exact ⟨(hX i hi).2.1, by rw [(hX i hi).2.2.1, hcl i hi]⟩
        · have hget : ∀ {i : Nat} {x : List D}, ((List.range len).map fun i => (X i).1)[i]? = some x → i < len ∧ x = (X i).1 := by
            intro i x h
            obtain ⟨hi, he⟩ := List.getElem?_eq_some_iff.1 h
            simp at hi he
            exact ⟨hi, he.symm⟩
          have key : ∀ (i j : Nat) (d : D), i < len → (X i).1[j]? = some d → w.cell? (a.add (i * P.cellsOf e + j)) = some ((X i).2.getD j (.bool false)) ∧ ((X i).2.getD j (.bool false)).oneCell' = true ∧ Rep w no d ((X i).2.getD j (.bool false)) := by
            intro i j d hi hd
            have hj : j < (X i).1.length := (List.getElem?_eq_some_iff.1 hd).1
            have hl := (hX i hi).2.2.1
            have hj2 : j < (X i).2.length := by omega
            have hu : (X i).2[j]? = some ((X i).2.getD j (.bool false)) := by simp [List.getD, hj2]
            have := (World.cells?_some (hX i hi).1).2.2 j (by rw [← hcl i hi]; exact hj2)
            rw [Deep.add_add, hu] at this
            exact ⟨this, (hX i hi).2.2.2 j d _ hd hu⟩
          have := Rep.sl (w := w) (own := no) (P.cellsOf e) ((List.range len).map fun i => (X i).1) a cap (fun i j => (X i).2.getD j (.bool false)) (by simpa using hlc) (fun x hx => by
              obtain ⟨i, hi, rfl⟩ := List.mem_map.1 hx
              have hi := List.mem_range.1 hi
              rw [(hX i hi).2.2.1, hcl i hi]) (fun hne => ?_) (fun i j x d hx hd => by
              obtain ⟨hi, rfl⟩ := hget hx
              exact ⟨(key i j d hi hd).1, (key i j d hi hd).2.1⟩) (fun i j x d hx hd => by
              obtain ⟨hi, rfl⟩ := hget hx
              exact (key i j d hi hd).2.2)
          · simpa using this
          · refine ⟨fun h => h, ?_⟩
            have h0 : 0 < len := by
              rcases Nat.eq_zero_or_pos len with h | h
              · exact absurd (by simp [h]) hne
              · exact h
            have hc := (World.cells?_some (hX 0 h0).1).2
            have := hc.2 0 hp.2
            rw [List.getElem?_eq_getElem (by omega)] at this
            have := block_lt_of_cell this
            rwa [Addr.block_add, Addr.block_add] at this
    · rename_i fs hu
      obtain ⟨xs, m, hm, rfl, hl, hxs, hf⟩ := DataW.trod_struct hu h
      obtain rfl : m = n := by omega
      simp only [Bool.and_eq_true, List.all_eq_true, beq_iff_eq] at hp
      obtain ⟨parts, hpl, hpt, hr⟩ := parts_of (P := P) (w := w) (T := fun f ds => Typed P m f.type ds) (cs := cs) fs.toList 0 (by rw [hp.2, hl]) (fun f hfm => by
        obtain ⟨i, hi, hfi⟩ := List.mem_iff_getElem.1 hfm
        have hfi' : fs[i]? = some f := by
          rw [← Array.getElem?_toList, List.getElem?_eq_getElem hi, hfi]
        have h1 := hf i f hfi'
        have hix : i < xs.length := by rw [hxs]; simpa using hi
        rw [List.getElem?_eq_getElem hix] at h1
        exact ih _ _ _ (hp.1 f hfm) h1)
      exact ⟨_, ⟨parts, rfl, by simpa using hpl, fun i f p h1 h2 => hpt i f p (by rw [Array.getElem?_toList]; exact h1) h2⟩, by simpa using hr⟩
    · cases hp
def TypedVF (P : Program) (t : Nat) (d : D) : Prop :=
  match P.underlying t with
  | some (.struct _) => ∃ n ds, d = .agg ds ∧ Typed P n t ds
  | _ => ∃ n, Typed P n t [d]
structure TypedV (P : Program) (t : Nat) (d : D) : Prop where
  out : TypedVF P t d
theorem argRep {H : Type} {enc : TypeId × Value → H} {P : Program} {w : World} {held : Bool} {ts : List Nat} {t : Nat} {v : Value} {d : DataW H} {ps : List MemPlace} {r : Reach} {base : Nat}
    (hps : plainS P ts = true) (hp : ts.contains t = true) (hv : Value.okWide P w r base t v) (h : DataW.Trod enc P w 0 (fun _ => true) held t v d ps) : ∃ d', TypedV P t d' ∧ Rep w no d' v := by
  obtain ⟨fuel, h⟩ := h
  obtain ⟨ds, ht, hr⟩ := trodRep hps fuel t _ _ hp h
  suffices hh : ∃ d', TypedVF P t d' ∧ Rep w no d' v by
    obtain ⟨d', h1, h2⟩ := hh
    exact ⟨d', ⟨h1⟩, h2⟩
  unfold TypedVF
  unfold Value.okWide at hv
  split at hv
  · rename_i hu
    obtain ⟨cs, rfl, hcs, _⟩ := hv
    simp only [hu]
    simp only [Value.cells] at hr
    refine ⟨_, ⟨_, ds, rfl, ht⟩, .agg ds cs (by simpa using hr.1.symm) (fun j u hu => ?_) (fun j d u hd hu => (hr.2 j d u hd (by simpa using hu)).2)⟩
    have hj : j < ds.length := by
      have := hr.1
      have := (Array.getElem?_eq_some_iff.1 hu).1
      simp at *
      omega
    exact (hr.2 j ds[j] u (List.getElem?_eq_getElem hj) (by simpa using hu)).1
  · rename_i hu
    replace hp := List.all_eq_true.1 hps t (List.contains_iff_mem.1 hp)
    simp [plainT, hu] at hp
  · rename_i hns hna
    have hagg : v.cells.toList = [v] := by
      cases v with
      | agg cs => exfalso; unfold Cell.okWide Cell.ok at hv; revert hv; cases P.underlying t <;> simp <;> rename_i x <;> cases x <;> simp
      | _ => rfl
    rw [hagg] at hr
    obtain ⟨d, rfl⟩ := List.length_eq_one_iff.1 hr.1
    refine ⟨d, ?_, (hr.2 0 d v rfl rfl).2⟩
    split
    · rename_i hu; exact absurd hu (hns _)
    · exact ⟨_, ht⟩
theorem ty_int {P : Program} {n : Nat} {t : Nat} {ds : List D} (hu : P.underlying t = some (.int .i64)) (h : Typed P n t ds) : ∃ x, ds = [.v (.int .i64 x)] ∧ I64 x := by
  cases n with
  | zero => exact h.elim
  | succ n =>
  simp only [Typed, hu] at h
  obtain ⟨x, rfl, hw⟩ := h
  exact ⟨x, rfl, by simp [Lit.wf, IntKind.min, IntKind.max, IntKind.signed, IntKind.bits] at hw; unfold I64; omega⟩
theorem enc_list {α : Type} {ok : α → Prop} {enc : α → List D} : ∀ (xs : List (List D)), (∀ x ∈ xs, ∃ y, ok y ∧ x = enc y) → ∃ l : List α, (∀ y ∈ l, ok y) ∧ xs = l.map enc
  | [], _ => ⟨[], fun _ h => (by cases h), rfl⟩
  | x :: xs, h => by
    obtain ⟨y, hy, rfl⟩ := h x (by simp)
    obtain ⟨l, hl, rfl⟩ := enc_list xs (fun x hx => h x (by simp [hx]))
    exact ⟨y :: l, (by
      intro z hz
      rcases List.mem_cons.1 hz with h | h
      · subst h; exact hy
      · exact hl z h), rfl⟩
def TypedAll (P : Program) (n : Nat) : List Nat → List (List D) → Prop
  | [], [] => True
  | t :: ts, p :: ps => Typed P n t p ∧ TypedAll P n ts ps
  | _, _ => False
theorem typedAll_of {P : Program} {n : Nat} : ∀ (fs : List Field) (ps : List (List D)), ps.length = fs.length → (∀ (i : Nat) (f : Field) (p : List D), fs[i]? = some f → ps[i]? = some p → Typed P n f.type p) →
    TypedAll P n (fs.map (·.type)) ps
  | [], [], _, _ => trivial
  | f :: fs, p :: ps, hl, h => ⟨h 0 f p rfl rfl, typedAll_of fs ps (by simpa using hl) (fun i f p h1 h2 => h (i + 1) f p (by simpa using h1) (by simpa using h2))⟩
  | [], _ :: _, hl, _ => by simp at hl
  | _ :: _, [], hl, _ => by simp at hl
theorem ty_st {P : Program} {n : Nat} {t : Nat} {ds : List D} {fs : Array Field} {ts : List Nat} (hu : P.underlying t = some (.struct fs)) (hts : fs.toList.map (·.type) = ts) (h : Typed P n t ds) :
    ∃ (m : Nat) (ps : List (List D)), ds = ps.flatten ∧ TypedAll P m ts ps := by
  cases n with
  | zero => exact h.elim
  | succ n =>
  simp only [Typed, hu] at h
  obtain ⟨ps, rfl, hl, hi⟩ := h
  exact ⟨n, ps, rfl, hts ▸ typedAll_of fs.toList ps (by simpa using hl) (fun i f p h1 h2 => hi i f p (by rwa [Array.getElem?_toList] at h1) h2)⟩
theorem all_cons {P : Program} {n : Nat} {t : Nat} {ts : List Nat} {ps : List (List D)} (h : TypedAll P n (t :: ts) ps) : ∃ p qs, ps = p :: qs ∧ Typed P n t p ∧ TypedAll P n ts qs := by
  cases ps with
  | nil => exact h.elim
  | cons p qs => exact ⟨p, qs, rfl, h⟩
theorem all_nil {P : Program} {n : Nat} {ps : List (List D)} (h : TypedAll P n [] ps) : ps = [] := by
  cases ps with
  | nil => rfl
  | cons p qs => exact h.elim
theorem tv_st {P : Program} {t : Nat} {d : D} {fs : Array Field} (hu : P.underlying t = some (.struct fs)) (h : TypedV P t d) : ∃ n ds, d = .agg ds ∧ Typed P n t ds := by
  have h := h.out
  simpa only [TypedVF, hu] using h
def Reps (w : World) : List D → List Value → Prop
  | [], [] => True
  | d :: ds, v :: vs => Rep w no d v ∧ Reps w ds vs
  | _, _ => False
theorem Reps.get {w : World} : ∀ {ds : List D} {vs : List Value}, Reps w ds vs → vs.length = ds.length ∧ ∀ (j : Nat) (d : D) (u : Value), ds[j]? = some d → vs[j]? = some u → Rep w no d u
  | [], [], _ => ⟨rfl, fun j d u h => by simp at h⟩
  | d :: ds, v :: vs, h => ⟨by simp [h.2.get.1], fun j d' u hd hu => by
      match j with
      | 0 => simp at hd hu; subst hd; subst hu; exact h.1
      | j + 1 => exact h.2.get.2 j d' u (by simpa using hd) (by simpa using hu)⟩
  | [], _ :: _, h => h.elim
  | _ :: _, [], h => h.elim
theorem Fun.walk {P : Program} {f : FuncId} {ds : List D} {vs : List Value} {w : World} (h : Fun P f ds (.v (.bool true))) (hr : Reps w ds vs) (hG : GlobOK P w no) :
    Calls P f vs.toArray w fun e w' => e = .returned (.bool true) ∧ Below w.heap.size w w' := by
  refine (h w no vs hr.get.1 (fun j d u hd hu => (hr.get.2 j d u hd hu).mono (Nat.le_refl _) (fun _ _ _ => rfl) (fun b _ hb => ?_)) ⟨fun _ hb => (by cases hb), .nil⟩ ⟨fun _ hf => hf.elim, hG.less fun g hg => absurd hg (own_nil g)⟩).mono ?_
  · rcases hb with h | h
    · exact h
    · exact (own_nil _ h).elim
  · rintro e w' ⟨v, r, H', rfl, ⟨rfl, rfl⟩, hr', _, hk, _⟩
    obtain rfl := hr'.of_v
    exact ⟨rfl, (hk.mono (fun b _ hb => (own_nil b hb).elim)).below⟩
section
variable {H : Type} {enc : TypeId × Value → H} {P : Program}
theorem trodAll_below {T : TypeId → Prop} {W W' : World} {sp : Nat → Bool} (K : Kids P T) (hz : ∀ t e, T t → P.underlying t = some (.slice e) → 0 < P.cellsOf e) (hb : Below W.heap.size W W') :
    ∀ {ts : List Nat} {vs : List Value} {ds : List (DataW H)} {ps : List MemPlace}, (∀ t ∈ ts, T t) → DataW.TrodAll enc P W 0 (fun _ => true) true ts vs ds ps → (∀ p ∈ ps, sp p.block = true) → DataW.TrodAll enc P W' 0 sp true ts vs ds ps
  | [], [], [], _, _, h, _ => h
  | _ :: _, _ :: _, _ :: _, _, hT, ⟨p, q, ⟨n, h1⟩, h2, e⟩, hs => by
    have h3 := DataW.trod_respare K hz n _ _ _ (hT _ (List.mem_cons.2 (Or.inl rfl))) h1 (spare' := sp) (fun x hx => hs x (by rw [e]; exact List.mem_append_left _ hx))
    exact ⟨p, q, ⟨n, DataW.trod_carry n _ _ _ h3 (fun x hx => hb.same (DataW.trod_lt n _ _ _ h1 x hx))⟩,
      trodAll_below K hz hb (fun t ht => hT t (List.mem_cons.2 (Or.inr ht))) h2 (fun x hx => hs x (by rw [e]; exact List.mem_append_right _ hx)), e⟩
theorem post_plain {f : Func} {s : ChangeSpec} {apart fresh handsOn again : Bool} {W W' : World} {args : Array Value} {v : Value} {ds : List (DataW H)} {before : List MemPlace}
    (hvars : s.vars = []) (hW : DataW.Whole enc P f.params.toList s.vars apart W args.toList ds [] before) (hb : Below W.heap.size W W')
    (hres : ∀ (b : Nat) (sp : Nat → Bool) (hd : Bool), DataW.TrodAll enc P W' b sp hd f.resultTypes.toList (v.resultList f.resultTypes.size) (s.fn H (ds ++ [])).results [])
    (hargs : ∀ sp : Nat → Bool, (∀ p ∈ before, sp p.block = true) → DataW.TrodAll enc P W' 0 sp true f.params.toList args.toList (s.fn H (ds ++ [])).args before)
    (hv : (s.fn H (ds ++ [])).vars = [])
    (hok : ∀ (j : Nat) (t : Nat) (r : Value), f.resultTypes[j]? = some t → (v.resultList f.resultTypes.size)[j]? = some r → Value.okWide P W' .any 0 t r) :
    s.post enc P f apart fresh handsOn again W args v W' := by
  have hlt : ∀ p ∈ before, p.block < W.heap.size := fun p hp => hW.lt p hp
  have hvs : ∀ sp : Nat → Bool, DataW.TrodVars enc P W' sp s.vars (s.fn H (ds ++ [])).vars [] := fun sp => by rw [hvars, hv]; rfl
  refine ⟨ds, [], before, [], before, [], hW, hres _ _ _, hargs _ (fun p hp => by simpa using hlt p hp), hvs _, World.keptBut_mono (fun p hp => ⟨hp, Or.inr (Or.inl hp)⟩) (hb.frame (· ∈ before)), fun _ => ?_⟩
  obtain ⟨_, _, _, _, _, hz, hn⟩ := hW
  refine ⟨hok, _, _, ([] ++ before) ++ [], ⟨[] ++ before, [], trodAll_append (hargs _ (fun _ _ => rfl)) (hres _ _ _), hvs _, rfl, fun b off hp => ?_, fun ha => by simpa using hn ha⟩, fun p hp _ => by simpa using hp⟩
  have hin : MemPlace.cell b off ∈ before := by simpa using hp
  rw [hb.frozen (hlt _ hin)]
  exact hz b off hin
end
end Go.Ob
/- A meaning weakened: what holds of a value under one datum holds under another; reading a field of a struct value. -/
set_option linter.unusedVariables false
set_option linter.unusedSimpArgs false
set_option linter.unusedSectionVars false
namespace Go.Ob
open Go.RowKit
def Le (d d' : D) : Prop := ∀ (w : World) (o : Nat → Prop) (u : Value), Rep w o d u → Rep w o d' u
theorem Le.refl (d : D) : Le d d := fun _ _ _ h => h
theorem Le.nil (es : Nat) : Le (.v (.slice none 0 0)) (.sl es []) := fun w o u h => by
  obtain rfl := h.of_v
  exact .nil es
inductive LeL : List D → List D → Prop where
  | nil : LeL [] []
  | cons {d d' : D} {ds ds' : List D} : Le d d' → LeL ds ds' → LeL (d :: ds) (d' :: ds')
theorem LeL.refl : ∀ (ds : List D), LeL ds ds
  | [] => .nil
  | d :: ds => .cons (.refl d) (LeL.refl ds)
theorem LeL.get {ds ds' : List D} (h : LeL ds ds') : ds.length = ds'.length ∧ ∀ (j : Nat) (d' : D), ds'[j]? = some d' → ∃ d, ds[j]? = some d ∧ Le d d' := by
  induction h with
  | nil => exact ⟨rfl, fun j d h => by simp at h⟩
  | cons h1 _ ih => exact ⟨by simp [ih.1], fun j d hd => by
      match j with
      | 0 => simp at hd; subst hd; exact ⟨_, rfl, h1⟩
      | j + 1 => simpa using ih.2 j d (by simpa using hd)⟩
theorem Le.agg {ds ds' : List D} (h : LeL ds ds') : Le (.agg ds) (.agg ds') := fun w o u hr => by
  cases hr with
  | agg _ vs hs h1 h2 => exact .agg ds' vs (by rw [hs, h.get.1]) h1 (fun j d u hd hu => let ⟨d0, h0, hl⟩ := h.get.2 j d hd; hl _ _ _ (h2 j d0 u h0 hu))
theorem Le.tup {ds ds' : List D} (h : LeL ds ds') : Le (.tup ds) (.tup ds') := fun w o u hr => by
  cases hr with
  | tup _ vs hs h2 => exact .tup ds' vs (by rw [hs, h.get.1]) (fun j d u hd hu => let ⟨d0, h0, hl⟩ := h.get.2 j d hd; hl _ _ _ (h2 j d0 u h0 hu))
inductive LeLL : List (List D) → List (List D) → Prop where
  | nil : LeLL [] []
  | cons {d d' : List D} {ds ds' : List (List D)} : LeL d d' → LeLL ds ds' → LeLL (d :: ds) (d' :: ds')
theorem LeLL.refl : ∀ (ds : List (List D)), LeLL ds ds
  | [] => .nil
  | d :: ds => .cons (.refl d) (LeLL.refl ds)
theorem LeLL.get {ds ds' : List (List D)} (h : LeLL ds ds') : ds.length = ds'.length ∧ ∀ (j : Nat) (d' : List D), ds'[j]? = some d' → ∃ d, ds[j]? = some d ∧ LeL d d' := by
  induction h with
  | nil => exact ⟨rfl, fun j d h => by simp at h⟩
  | cons h1 _ ih => exact ⟨by simp [ih.1], fun j d hd => by
      match j with
      | 0 => simp at hd; subst hd; exact ⟨_, rfl, h1⟩
      | j + 1 => simpa using ih.2 j d (by simpa using hd)⟩
theorem Le.sl {es : Nat} {xs xs' : List (List D)} (h : LeLL xs xs') : Le (.sl es xs) (.sl es xs') := fun w o u hr => by
  have hl := h.get.1
  cases hr with
  | nil =>
    obtain rfl : xs' = [] := List.eq_nil_of_length_eq_zero (by simpa using hl.symm)
    exact .nil es
  | sl _ _ a c val hc he hb hcell hrep =>
    rw [hl]
    refine .sl es xs' a c val (by omega) (fun x hx => ?_) (fun hne => hb (fun h0 => hne (List.eq_nil_of_length_eq_zero (by rw [← hl, h0]; rfl)))) (fun i j x d hx hd => ?_) (fun i j x d hx hd => ?_)
    · obtain ⟨i, hi, rfl⟩ := List.mem_iff_getElem.1 hx
      obtain ⟨x0, h0, hle⟩ := h.get.2 i _ (List.getElem?_eq_getElem hi)
      rw [← hle.get.1]
      exact he x0 (List.mem_of_getElem? h0)
    · obtain ⟨x0, h0, hle⟩ := h.get.2 i x hx
      obtain ⟨d0, h1, _⟩ := hle.get.2 j d hd
      exact hcell i j x0 d0 h0 h1
    · obtain ⟨x0, h0, hle⟩ := h.get.2 i x hx
      obtain ⟨d0, h1, hd'⟩ := hle.get.2 j d hd
      exact hd' _ _ _ (hrep i j x0 d0 h0 h1)
section
variable {K : Ctx} {env : Env} {H : Hp} {Q : Exit → Env → Hp → Prop}
theorem Sat.le {a : Act} {w : World} (h : Sat K env H a w) {t : Nat} {d d' : D} (ht : env t = some d) (hl : Le d d') : Sat K (env.put t (some d')) H a w :=
  ⟨fun t' x hx => (by
      rcases Env.put_some hx with ⟨rfl, e⟩ | ⟨_, e⟩
      · obtain rfl := Option.some.inj e
        obtain ⟨u, hu, hr⟩ := h.tmps _ _ ht
        exact ⟨u, hu, hl _ _ _ hr⟩
      · exact h.tmps _ _ e), h.size, h.defers, h.heap, h.kept, h.fresh, h.foreign⟩
theorem TC.le {c : Code} {d d' : D} (t : Nat) (ht : env t = some d) (hl : Le d d') (h : TC K c Q (env.put t (some d')) H) : TC K c Q env H := TC.view (fun _ _ hs => hs.le ht hl) h
theorem TL.le {ops : Array Oper} {l : List Oper} {d d' : D} (t : Nat) (ht : env t = some d) (hl : Le d d') (h : TL K ops l Q (env.put t (some d')) H) : TL K ops l Q env H := fun a w hs => h a w (hs.le ht hl)
end
theorem Fun.le {P : Program} {f : FuncId} {ds ds' : List D} {r r' : D} (h : Fun P f ds r) (ha : LeL ds' ds) (hr : Le r r') : Fun P f ds' r' := by
  intro w F vs hl hrep hok hF
  refine (h w F vs (by rw [hl, ha.get.1]) (fun j d u hd hu => ?_) hok hF).mono ?_
  · obtain ⟨d0, h0, hle⟩ := ha.get.2 j d hd
    exact hle _ _ _ (hrep j d0 u h0 hu)
  · rintro e w' ⟨v, r0, H', rfl, ⟨rfl, rfl⟩, h1, h2, h3, h4⟩
    exact ⟨v, r', [], rfl, ⟨rfl, rfl⟩, hr _ _ _ h1, h2, h3, h4⟩
section
variable {P : Program} {H : Hp} {env : Env} {dst : Option Tmp} {ty : TypeId} {pos : String} {af : Array Edge} {gd : Option (Nat × Bool)}
theorem Rep.agg_get {w : World} {o : Nat → Prop} {ds : List D} {u : Value} (h : Rep w o (.agg ds) u) {i : Nat} {d : D} (hi : ds[i]? = some d) : ∃ vs v, u = .agg vs ∧ vs[i]? = some v ∧ v.oneCell' = true ∧ Rep w o d v := by
  cases h with
  | agg _ vs hs h1 hr =>
    have hlt : i < vs.size := by rw [hs]; exact (List.getElem?_eq_some_iff.1 hi).1
    exact ⟨vs, vs[i], rfl, by simp [hlt], h1 i _ (by simp [hlt]), hr i d _ hi (by simp [hlt])⟩
structure FieldV (P : Program) (t f o ft : Nat) : Prop where
  field : ∃ fs fd, P.underlying t = some (.struct fs) ∧ fs[f]? = some fd ∧ fd.offset = o ∧ fd.type = ft
theorem pure_field {x : Operand} {t f o ft : Nat} {cs : List D} {d : D} (hf : FieldV P t f o ft) (ht : OneT P ft) (hx : opD env x = some (.agg cs)) (hd : cs[o]? = some d) :
    Pure P H ⟨dst, .field t x f, ty, pos, af, gd⟩ env d := pure_of fun w _ ρ _ h => by
  obtain ⟨fs, fd, hu, hfd, rfl, rfl⟩ := hf.field
  obtain ⟨vs, v, e, hv, _, hr⟩ := (h x (by simp [Op.operands]) _ hx).agg_get hd
  exact ⟨v, by simp [execOp, Instr.field, run_underlying hu, hfd, e, asAgg, part, ht.one, hv], hr⟩
end
end Go.Ob
