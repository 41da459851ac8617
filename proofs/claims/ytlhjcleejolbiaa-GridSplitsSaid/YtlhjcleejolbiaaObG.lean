/- The rules in the form in which the printed walks use them. -/
import Derived.Test.YtlhjcleejolbiaaObF
set_option linter.unusedVariables false
set_option linter.unusedSimpArgs false
set_option linter.unusedSectionVars false
namespace Go.Ob
open Go.RowKit

theorem mkI64 {n : Int} (h1 : -9223372036854775808 ≤ n) (h2 : n ≤ 9223372036854775807) : I64 n := ⟨h1, h2⟩

inductive Agree (env : Env) : List (Nat × D) → Prop where
  | nil : Agree env []
  | cons {t : Nat} {d : D} {l : List (Nat × D)} : env t = some d → Agree env l → Agree env ((t, d) :: l)
theorem Agree.mem {env : Env} {l : List (Nat × D)} (h : Agree env l) : ∀ p ∈ l, env p.1 = some p.2 := by
  induction h with
  | nil => intro p hp; cases hp
  | cons h1 h2 ih => intro p hp; rcases List.mem_cons.1 hp with rfl | hp
                     · exact h1
                     · exact ih p hp

/-- The slots and the blocks that count. -/
structure At (env : Env) (H : Hp) (l : List (Nat × D)) (h : Hp) : Prop where
  slots : Agree env l
  heap : h.Sublist H

section
variable {K : Ctx} {Q : Exit → Env → Hp → Prop} {env : Env} {H : Hp} {ops : Array Oper} {rest : List Oper} {t : Nat} {ty : TypeId} {pos : String} {af : Array Edge} {op : Op} {d : D}

theorem TL.run1 (hp : Pure K.P H ⟨some t, op, ty, pos, af, none⟩ env d) (hd : Nat.blt t K.n = true) (h : TL K ops rest Q (env.put t (some d)) H) :
    TL K ops (⟨some t, op, ty, pos, af, none⟩ :: rest) Q env H :=
  TL.run (o := ⟨some t, op, ty, pos, af, none⟩) rfl hp (fun t' e => by cases e; simpa [Nat.blt_eq] using hd) h

/-- A guarded operation that runs. -/
theorem TL.runG {j gt : Nat} {b : Bool} (hg : (ops[j]?).bind (·.dst) = some gt) (hb : env gt = some (.v (.bool b))) (hp : Pure K.P H ⟨some t, op, ty, pos, af, some (j, b)⟩ env d) (hd : Nat.blt t K.n = true)
    (h : TL K ops rest Q (env.put t (some d)) H) : TL K ops (⟨some t, op, ty, pos, af, some (j, b)⟩ :: rest) Q env H :=
  TL.run (o := ⟨some t, op, ty, pos, af, some (j, b)⟩) ⟨gt, .bool b, hg, hb, by cases b <;> rfl⟩ hp (fun t' e => by cases e; simpa [Nat.blt_eq] using hd) h

/-- A guarded operation that is passed over. -/
theorem TL.passG {j gt : Nat} {b : Bool} {x : Value} (hg : (ops[j]?).bind (·.dst) = some gt) (hb : env gt = some (.v x)) (hx : boolIs x b = false) (hd : Nat.blt t K.n = true)
    (h : TL K ops rest Q (env.put t (some (.v undef))) H) : TL K ops (⟨some t, op, ty, pos, af, some (j, b)⟩ :: rest) Q env H :=
  TL.pass (o := ⟨some t, op, ty, pos, af, some (j, b)⟩) ⟨gt, x, hg, hb, hx.symm⟩ (fun t' e => by cases e; simpa [Nat.blt_eq] using hd) h

theorem TD.run1 (hp : Pure K.P H ⟨some t, op, ty, pos, af, none⟩ env d) (hd : Nat.blt t K.n = true) (h : TD K ops rest Q (env.put t (some d)) H) :
    TD K ops (⟨some t, op, ty, pos, af, none⟩ :: rest) Q env H :=
  TD.run (o := ⟨some t, op, ty, pos, af, none⟩) rfl hp (fun t' e => by cases e; simpa [Nat.blt_eq] using hd) h
theorem TD.runG {j gt : Nat} {b : Bool} (hg : (ops[j]?).bind (·.dst) = some gt) (hb : env gt = some (.v (.bool b))) (hp : Pure K.P H ⟨some t, op, ty, pos, af, some (j, b)⟩ env d) (hd : Nat.blt t K.n = true)
    (h : TD K ops rest Q (env.put t (some d)) H) : TD K ops (⟨some t, op, ty, pos, af, some (j, b)⟩ :: rest) Q env H :=
  TD.run (o := ⟨some t, op, ty, pos, af, some (j, b)⟩) ⟨gt, .bool b, hg, hb, by cases b <;> rfl⟩ hp (fun t' e => by cases e; simpa [Nat.blt_eq] using hd) h
theorem TD.passG {j gt : Nat} {b : Bool} {x : Value} (hg : (ops[j]?).bind (·.dst) = some gt) (hb : env gt = some (.v x)) (hx : boolIs x b = false) (hd : Nat.blt t K.n = true)
    (h : TD K ops rest Q (env.put t (some (.v undef))) H) : TD K ops (⟨some t, op, ty, pos, af, some (j, b)⟩ :: rest) Q env H :=
  TD.pass (o := ⟨some t, op, ty, pos, af, some (j, b)⟩) ⟨gt, x, hg, hb, hx.symm⟩ (fun t' e => by cases e; simpa [Nat.blt_eq] using hd) h

theorem Env.put_id {t : Nat} {d : D} (h : env t = some d) : env.put t (some d) = env := by
  funext t'
  by_cases ht : t' = t
  · subst ht; rw [Env.put_same, h]
  · rw [Env.put_other ht]

/-- By cases on a bool that lies in a slot. -/
theorem TL.split {l : List Oper} {b : Bool} (g : Nat) (hb : env g = some (.v (.bool b))) (h1 : b = true → TL K ops l Q (env.put g (some (.v (.bool true)))) H)
    (h2 : b = false → TL K ops l Q (env.put g (some (.v (.bool false)))) H) : TL K ops l Q env H := by
  cases b with
  | true => rw [← Env.put_id hb]; exact h1 rfl
  | false => rw [← Env.put_id hb]; exact h2 rfl
theorem TD.split {l : List Oper} {b : Bool} (g : Nat) (hb : env g = some (.v (.bool b))) (h1 : b = true → TD K ops l Q (env.put g (some (.v (.bool true)))) H)
    (h2 : b = false → TD K ops l Q (env.put g (some (.v (.bool false)))) H) : TD K ops l Q env H := by
  cases b with
  | true => rw [← Env.put_id hb]; exact h1 rfl
  | false => rw [← Env.put_id hb]; exact h2 rfl
theorem TL.splitP {l : List Oper} {p : Prop} [Decidable p] (g : Nat) (hb : env g = some (.v (.bool (decide p)))) (h1 : p → TL K ops l Q (env.put g (some (.v (.bool true)))) H)
    (h2 : ¬ p → TL K ops l Q (env.put g (some (.v (.bool false)))) H) : TL K ops l Q env H :=
  TL.split g hb (fun h => h1 (of_decide_eq_true h)) (fun h => h2 (of_decide_eq_false h))
theorem TD.splitP {l : List Oper} {p : Prop} [Decidable p] (g : Nat) (hb : env g = some (.v (.bool (decide p)))) (h1 : p → TD K ops l Q (env.put g (some (.v (.bool true)))) H)
    (h2 : ¬ p → TD K ops l Q (env.put g (some (.v (.bool false)))) H) : TD K ops l Q env H :=
  TD.split g hb (fun h => h1 (of_decide_eq_true h)) (fun h => h2 (of_decide_eq_false h))

theorem TC.condD {x : Operand} {c c' : Code} {p : Prop} {inst : Decidable p} (hb : opD env x = some (.v (.bool (@decide p inst)))) (h1 : p → TC K c Q env H) (h2 : ¬ p → TC K c' Q env H) :
    TC K (.cond x c c') Q env H := TC.cond hb (fun h => h1 (of_decide_eq_true h)) (fun h => h2 (of_decide_eq_false h))
theorem TC.condN {x : Operand} {c c' : Code} {p : Prop} {inst : Decidable p} (hb : opD env x = some (.v (.bool (!(@decide p inst))))) (h1 : ¬ p → TC K c Q env H) (h2 : p → TC K c' Q env H) :
    TC K (.cond x c c') Q env H := TC.cond hb (fun h => h1 (by simpa using h)) (fun h => h2 (by simpa using h))

/-! ### how what comes next is reached -/
theorem TC.skip' {c : Code} (h : TC K c Q env H) : TC K .skip (thenA K c Q) env H := TC.skip h
theorem then_normal {c : Code} (h : TC K c Q env H) : thenA K c Q .normal env H := h
theorem then_exit {c : Code} {i : Nat} (h : Q (.exit i) env H) : thenA K c Q (.exit i) env H := h
theorem then_ret {c : Code} (h : Q .ret env H) : thenA K c Q .ret env H := h
theorem block_normal {i : Nat} (h : Q .normal env H) : blockA i Q .normal env H := h
theorem block_ret {i : Nat} (h : Q .ret env H) : blockA i Q .ret env H := h
theorem block_here {i : Nat} (h : Q .normal env H) : blockA i Q (.exit i) env H := by simp only [blockA, if_true]; exact h
theorem block_past {i j : Nat} (hne : Nat.beq j i = false) (h : Q (.exit j) env H) : blockA i Q (.exit j) env H := by
  have : j ≠ i := fun e => by subst e; rw [Nat.beq_refl] at hne; cases hne
  simp only [blockA, if_neg this]; exact h

/-- A piece of code, and what holds behind it. -/
def postA (Post : Env → Hp → Prop) (Q : Exit → Env → Hp → Prop) : Exit → Env → Hp → Prop
  | .normal, env, H => Post env H
  | e, env, H => Q e env H
theorem TC.seqCut {c c' : Code} (Post : Env → Hp → Prop) (h : TC K c (postA Post Q) env H) (h' : ∀ env' H', Post env' H' → TC K c' Q env' H') : TC K (.seq c c') Q env H :=
  TC.seq (h.mono fun e env' H' hq => by cases e <;> first | exact h' _ _ hq | exact hq)
theorem post_normal {Post : Env → Hp → Prop} (h : Post env H) : postA Post Q .normal env H := h
theorem post_exit {Post : Env → Hp → Prop} {i : Nat} (h : Q (.exit i) env H) : postA Post Q (.exit i) env H := h
theorem post_ret {Post : Env → Hp → Prop} (h : Q .ret env H) : postA Post Q .ret env H := h

theorem TC.at {c : Code} {l : List (Nat × D)} {h : Hp} (ha : At env H l h) (hc : TC K c Q (Env.of l) h) : TC K c Q env H := TC.slots l h ha.slots.mem ha.heap hc

/-! ### loops: what the slots and the blocks hold at each round's head, as a function of X -/
def loopX {X : Type} (l : X → List (Nat × D)) (h : X → Hp) (inv : X → Prop) (μ : X → Nat) (Q : Exit → Env → Hp → Prop) (x : X) : Exit → Env → Hp → Prop
  | .normal, env, H => ∃ x', At env H (l x') (h x') ∧ inv x' ∧ μ x' < μ x
  | e, env, H => Q e env H
theorem TC.loopX {X : Type} {c : Code} (l : X → List (Nat × D)) (h : X → Hp) (inv : X → Prop) (μ : X → Nat) (x0 : X) (h0 : At env H (l x0) (h x0)) (hi : inv x0)
    (hstep : ∀ x, inv x → TC K c (loopX l h inv μ Q x) (Env.of (l x)) (h x)) : TC K (.loop c) Q env H := by
  refine TC.loop (fun n env H => ∃ x, At env H (l x) (h x) ∧ inv x ∧ n = μ x) (μ x0) ⟨x0, h0, hi, rfl⟩ fun n env H ⟨x, ha, hx, hn⟩ => ?_
  refine TC.at ha ((hstep x hx).mono fun e env' H' hq => ?_)
  subst hn
  cases e with
  | normal => obtain ⟨x', ha', hi', hm⟩ := hq; exact ⟨_, hm, x', ha', hi', rfl⟩
  | _ => exact hq
theorem loop_next {X : Type} {l : X → List (Nat × D)} {h : X → Hp} {inv : X → Prop} {μ : X → Nat} {x : X} (x' : X) (ha : At env H (l x') (h x')) (hi : inv x') (hm : μ x' < μ x) :
    loopX l h inv μ Q x .normal env H := ⟨x', ha, hi, hm⟩
theorem loop_exit {X : Type} {l : X → List (Nat × D)} {h : X → Hp} {inv : X → Prop} {μ : X → Nat} {x : X} {i : Nat} (hq : Q (.exit i) env H) : loopX l h inv μ Q x (.exit i) env H := hq
theorem loop_ret {X : Type} {l : X → List (Nat × D)} {h : X → Hp} {inv : X → Prop} {μ : X → Nat} {x : X} (hq : Q .ret env H) : loopX l h inv μ Q x .ret env H := hq

/-! ### the end of a function -/
theorem ret_of {P : Program} {rs : Array ResultVar} {R : D → Hp → Prop} {ds : List D} (hr : ResD P env H rs.toList ds)
    {H' : Hp} (hs : H'.Sublist H) (hR : R (oneD ds) H') : RetA P rs R .ret env H := ⟨.inl rfl, ds, hr, H', hs, hR⟩

/-- The contract of a function that only reads. -/
theorem ret_fun {P : Program} {rs : List ResultVar} {r : D} {ds : List D} (hr : ResD P env H rs ds) (h : oneD ds = r) :
    RetA P rs.toArray (fun r' H' => r' = r ∧ H' = []) .ret env H :=
  ret_of (by simpa using hr) (List.nil_sublist _) ⟨h, rfl⟩
theorem ret1 {P : Program} {t : Nat} {r d : D} {e : Exit} (he : e = .ret ∨ e = .normal) (hr : env t = some d) (h : d = r) : RetA P [ResultVar.tmp t].toArray (fun r' H' => r' = r ∧ H' = []) e env H :=
  ⟨he, [d], .tmp hr .nil, [], List.nil_sublist _, h, rfl⟩
theorem ret_int {P : Program} {t : Nat} {k : IntKind} {a b : Int} (hr : env t = some (.v (.int k a))) (h : a = b) : RetA P [ResultVar.tmp t].toArray (fun r' H' => r' = .v (.int k b) ∧ H' = []) .ret env H :=
  ret1 (.inl rfl) hr (by rw [h])
theorem ret_bool {P : Program} {t : Nat} {a b : Bool} (hr : env t = some (.v (.bool a))) (h : a = b) : RetA P [ResultVar.tmp t].toArray (fun r' H' => r' = .v (.bool b) ∧ H' = []) .ret env H :=
  ret1 (.inl rfl) hr (by rw [h])
theorem ret_str {P : Program} {t : Nat} {a b : ByteArray} (hr : env t = some (.v (.string a))) (h : a = b) : RetA P [ResultVar.tmp t].toArray (fun r' H' => r' = .v (.string b) ∧ H' = []) .ret env H :=
  ret1 (.inl rfl) hr (by rw [h])
theorem ret_sl {P : Program} {t es : Nat} {a b : List (List D)} (hr : env t = some (.sl es a)) (h : a = b) : RetA P [ResultVar.tmp t].toArray (fun r' H' => r' = .sl es b ∧ H' = []) .ret env H :=
  ret1 (.inl rfl) hr (by rw [h])

end

theorem Fun.enter {P : Program} {f n : Nat} {fn : Func} {c : Code} {ds : List D} {r : D} {rs : List ResultVar} (hf : P.funcs[f]? = some fn) (hb : fn.body = some c) (hn : fn.ntmps = n) (hr : fn.results = rs.toArray) (hl : Nat.ble ds.length n = true)
    (h : ∀ w F, TC ⟨P, n, w, F, own [], none⟩ c (RetA P rs.toArray (fun r' H' => r' = r ∧ H' = [])) (Env.args 0 ds) []) : Fun P f ds r := by
  subst hn
  exact Fun.of_body hf hb (by simpa using hl) (by rw [hr]; exact h)

end Go.Ob
