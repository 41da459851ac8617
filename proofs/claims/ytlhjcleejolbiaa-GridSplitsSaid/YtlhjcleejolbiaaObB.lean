/- The rules for the forms of code over data; regions that draw their order. -/
import Derived.Test.YtlhjcleejolbiaaObA
import Derived.LoopN
set_option linter.unusedVariables false
set_option linter.unusedSimpArgs false
set_option linter.unusedSectionVars false
namespace Go.Ob
open Go.RowKit

section
variable {K : Ctx} {Q : Exit → Env → Hp → Prop} {env : Env} {H : Hp}

def thenA (K : Ctx) (d : Code) (Q : Exit → Env → Hp → Prop) : Exit → Env → Hp → Prop
  | .normal, env, H => TC K d Q env H
  | e, env, H => Q e env H
def blockA (id : Nat) (Q : Exit → Env → Hp → Prop) : Exit → Env → Hp → Prop
  | .exit id', env, H => if id' = id then Q .normal env H else Q (.exit id') env H
  | e, env, H => Q e env H

theorem TC.mono {c : Code} {Q' : Exit → Env → Hp → Prop} (h : TC K c Q env H) (hq : ∀ e env H, Q e env H → Q' e env H) : TC K c Q' env H :=
  fun a w hs => wpIn_mono (h a w hs) fun e _ _ ⟨env', H', hs', hq'⟩ => ⟨env', H', hs', hq e env' H' hq'⟩

theorem TC.skip (h : Q .normal env H) : TC K .skip Q env H := fun _ _ hs => wpIn_skip ⟨env, H, hs, h⟩
theorem TC.ret (h : Q .ret env H) : TC K .ret Q env H := fun _ _ hs => wpIn_ret ⟨env, H, hs, h⟩
theorem TC.exit {id : Nat} (h : Q (.exit id) env H) : TC K (.exit id) Q env H := fun _ _ hs => wpIn_exit ⟨env, H, hs, h⟩

theorem TC.seq {c d : Code} (h : TC K c (thenA K d Q) env H) : TC K (.seq c d) Q env H := fun a w hs =>
  wpIn_seq (wpIn_mono (h a w hs) fun e a' w' ⟨env', H', hs', hq'⟩ => by
    cases e <;> first | exact hq' a' w' hs' | exact ⟨env', H', hs', hq'⟩)

theorem TC.block {id : Nat} {c : Code} (h : TC K c (blockA id Q) env H) : TC K (.block id c) Q env H := fun a w hs =>
  wpIn_block (wpIn_mono (h a w hs) fun e a' w' ⟨env', H', hs', hq'⟩ => by
    cases e with
    | exit i =>
      simp only [blockA] at hq'
      simp only [Exit.inBlock]
      split at hq'
      · rename_i hi; rw [if_pos hi]; exact ⟨env', H', hs', hq'⟩
      · rename_i hi; rw [if_neg hi]; exact ⟨env', H', hs', hq'⟩
    | _ => exact ⟨env', H', hs', hq'⟩)

theorem Sat.eval {a : Act} {w : World} (h : Sat K env H a w) {x : Operand} {d : D} (hx : opD env x = some d) : Rep w (both K.F H) d (a.eval x) := by
  cases x with
  | tmp t =>
    obtain ⟨u, hu, hr⟩ := h.tmps t d hx
    simpa [Act.eval, hu] using hr
  | const v => simp only [opD, Option.some.injEq] at hx; subst hx; exact .v v
  | global g => simp only [opD, Option.some.injEq] at hx; subst hx; exact .v _
  | func f => simp only [opD, Option.some.injEq] at hx; subst hx; exact .fn f [] #[] rfl (fun j d u hd => by simp at hd)

theorem TC.cond {t : Operand} {x y : Code} {b : Bool} (hb : opD env t = some (.v (.bool b))) (h1 : b = true → TC K x Q env H) (h2 : b = false → TC K y Q env H) :
    TC K (.cond t x y) Q env H := fun a w hs =>
  wpIn_cond_split (Rep.of_v (hs.eval hb)) (fun h => h1 h a w hs) (fun h => h2 h a w hs)

/-- The same, the test being a proposition. -/
theorem TC.condP {t : Operand} {x y : Code} {b : Bool} {p : Prop} (hb : opD env t = some (.v (.bool b))) (hp : b = true ↔ p) (h1 : p → TC K x Q env H) (h2 : ¬ p → TC K y Q env H) :
    TC K (.cond t x y) Q env H :=
  TC.cond hb (fun h => h1 (hp.1 h)) (fun h => h2 (fun hh => by rw [hp.2 hh] at h; cases h))

def loopA (I : Nat → Env → Hp → Prop) (Q : Exit → Env → Hp → Prop) (n : Nat) : Exit → Env → Hp → Prop
  | .normal, env, H => ∃ m, m < n ∧ I m env H
  | e, env, H => Q e env H

theorem TC.loop {c : Code} (I : Nat → Env → Hp → Prop) (n : Nat) (h0 : I n env H)
    (hstep : ∀ n env H, I n env H → TC K c (loopA I Q n) env H) : TC K (.loop c) Q env H := by
  have key : ∀ N n env H a w, n < N → I n env H → Sat K env H a w → Code.roundsIn (fen K.r) 0 K.P c (liftQ K Q) N a w := by
    intro N
    induction N with
    | zero => intro n _ _ _ _ h; omega
    | succ N ih =>
      intro n env H a w hn hI hs
      rw [roundsIn_succ]
      refine wpIn_mono (hstep n env H hI a w hs) fun e a' w' ⟨env', H', hs', hq'⟩ => ?_
      cases e with
      | normal =>
        obtain ⟨m, hm, hI'⟩ := hq'
        exact ih m env' H' a' w' (by omega) hI' hs'
      | _ => exact ⟨env', H', hs', hq'⟩
  exact fun a w hs => wpIn_loop_rounds (n + 1) (key (n + 1) n env H a w (by omega) h0 hs)

/-- Any other description of the same state. -/
theorem TC.view {c : Code} {env' : Env} {H' : Hp} (hv : ∀ a w, Sat K env H a w → Sat K env' H' a w) (h : TC K c Q env' H') : TC K c Q env H := fun a w hs => h a w (hv a w hs)

/-- A cut: what holds behind c. -/
theorem TC.cut {c : Code} {R : Exit → Env → Hp → Prop} (h : TC K c R env H) (hq : ∀ e env H, R e env H → Q e env H) : TC K c Q env H := h.mono hq

/-- The slots that are read later are as listed; nothing is asked of the others. -/
theorem Sat.weaken {a : Act} {w : World} {env' : Env} (h : Sat K env H a w) (he : ∀ t d, env' t = some d → env t = some d) : Sat K env' H a w :=
  ⟨fun t d hd => h.tmps t d (he t d hd), h.size, h.defers, h.heap, h.kept, h.fresh, h.foreign⟩

theorem own_mono {H' : Hp} (h : ∀ b, b ∈ H' → b ∈ H) {g : Nat} (hg : own H' g) : own H g := let ⟨b, hb, he⟩ := hg; ⟨b, h b hb, he⟩
theorem both_mono {F : Nat → Prop} {H' : Hp} (h : ∀ b, b ∈ H' → b ∈ H) {g : Nat} (hg : both F H' g) : both F H g := hg.imp id (own_mono h)

theorem Rep.fewer {w : World} {o o' : Nat → Prop} {d : D} {u : Value} (h : Rep w o d u) (ho : ∀ g, o' g → o g) : Rep w o' d u :=
  h.mono (Nat.le_refl _) (fun _ _ _ => rfl) (fun b _ => ho b)

theorem Blk.ok_fewer {w : World} {o o' : Nat → Prop} {b : Blk} (h : b.ok w o) (ho : ∀ g, o' g → o g) : b.ok w o' :=
  Blk.ok_mono h (fun _ _ => rfl) (fun _ _ hr => hr.fewer ho)

theorem HeapOK.sub {w : World} {o o' : Nat → Prop} {H' : Hp} (h : HeapOK w o H) (hs : H'.Sublist H) (ho : ∀ g, o' g → o g) : HeapOK w o' H' :=
  ⟨fun b hb => Blk.ok_fewer (h.each b (hs.subset hb)) ho, h.apart.sublist hs⟩

/-- Fewer slots and fewer blocks. -/
theorem Sat.forget {a : Act} {w : World} {env' : Env} {H' : Hp} (h : Sat K env H a w) (he : ∀ t d, env' t = some d → env t = some d) (hH : H'.Sublist H) : Sat K env' H' a w :=
  ⟨fun t d hd => let ⟨u, hu, hr⟩ := h.tmps t d (he t d hd); ⟨u, hu, hr.fewer fun _ => both_mono fun _ => (hH.subset ·)⟩, h.size, h.defers,
   h.heap.sub hH (fun _ => both_mono fun _ => (hH.subset ·)), h.kept, fun g hg => h.fresh g (own_mono (fun _ => (hH.subset ·)) hg), h.foreign⟩

theorem TC.forget {c : Code} {env' : Env} {H' : Hp} (he : ∀ t d, env' t = some d → env t = some d) (hH : H'.Sublist H) (h : TC K c Q env' H') : TC K c Q env H :=
  TC.view (fun _ _ hs => hs.forget he hH) h

theorem Env.of_le {l : List (Nat × D)} {env : Env} (h : ∀ p ∈ l, env p.1 = some p.2) : ∀ t d, Env.of l t = some d → env t = some d := by
  induction l with
  | nil => intro t d hd; simp [Env.of] at hd
  | cons p l ih =>
    intro t d hd
    obtain ⟨t', d'⟩ := p
    simp only [Env.of, Env.put] at hd
    by_cases ht : t = t'
    · subst ht
      simp only [Nat.beq_refl, cond_true, Option.some.injEq] at hd
      subst hd
      exact h (t, d') (by simp)
    · have hb : Nat.beq t t' = false := by
        cases hb : Nat.beq t t' with
        | false => rfl
        | true => exact absurd (Nat.eq_of_beq_eq_true hb) ht
      rw [hb] at hd
      exact ih (fun p hp => h p (by simp [hp])) t d hd

theorem TC.slots {c : Code} (l : List (Nat × D)) (H' : Hp) (he : ∀ p ∈ l, env p.1 = some p.2) (hH : H'.Sublist H) (h : TC K c Q (Env.of l) H') : TC K c Q env H :=
  TC.forget (Env.of_le he) hH h

theorem TC.region {id : Nat} {l : List Oper} (h : TL K l.toArray l Q env H) : TC K (.region id l.toArray false) Q env H := fun a w hs => wpIn_region_lit (h a w hs)

theorem TL.nil {ops : Array Oper} (h : Q .normal env H) : TL K ops [] Q env H := fun _ _ hs => wpListIn_nil ⟨env, H, hs, h⟩
theorem TL.nil' {ops : Array Oper} {c : Code} (h : TC K c Q env H) : TL K ops [] (thenA K c Q) env H := TL.nil h

theorem Sat.wanted {a : Act} {w : World} (h : Sat K env H a w) {t : Nat} {c : Bool} (ht : env t = some (.v (.bool c))) : a.tmps[t]? = some (.bool c) := by
  obtain ⟨u, hu, hr⟩ := h.tmps t _ ht
  rw [hu, Rep.of_v hr]

theorem Env.put_some {env : Env} {t t' : Nat} {od : Option D} {d : D} (h : (env.put t od) t' = some d) : (t' = t ∧ od = some d) ∨ (t' ≠ t ∧ env t' = some d) := by
  unfold Env.put at h
  by_cases ht : t' = t
  · subst ht
    simp only [Nat.beq_refl, cond_true] at h
    exact .inl ⟨rfl, h⟩
  · have hb : Nat.beq t' t = false := by
      cases hb : Nat.beq t' t with
      | false => rfl
      | true => exact absurd (Nat.eq_of_beq_eq_true hb) ht
    rw [hb] at h
    exact .inr ⟨ht, h⟩

/-- A new value in a slot, in a world in which all is as it was. -/
theorem Sat.put {a : Act} {w w' : World} {dst : Option Nat} {od : Option D} {v : Value} (h : Sat K env H a w) (k : Kept no w w')
    (hd : ∀ t, dst = some t → t < K.n) (hv : ∀ d, od = some d → Rep w' (both K.F H) d v) : Sat K (env.putO dst od) H (a.put dst v) w' := by
  have hkeep : ∀ d u, Rep w (both K.F H) d u → Rep w' (both K.F H) d u := fun d u hr => hr.kept k (fun _ _ hf => hf.elim) (fun _ _ h => h)
  refine ⟨fun t d ht => ?_, ?_, ?_, h.heap.keep k (fun _ _ h => h), h.kept.trans (k.mono fun _ _ hf => hf.elim), h.fresh, h.foreign⟩
  · cases dst with
    | none =>
      obtain ⟨u, hu, hr⟩ := h.tmps t d ht
      exact ⟨u, hu, hkeep _ _ hr⟩
    | some t0 =>
      rcases Env.put_some ht with ⟨rfl, ho⟩ | ⟨hne, ho⟩
      · exact ⟨v, by simp [Act.put, h.size, hd t rfl], hv d ho⟩
      · obtain ⟨u, hu, hr⟩ := h.tmps t d ho
        exact ⟨u, by simp only [Act.put]; rw [Array.getElem?_setIfInBounds_ne (Ne.symm hne)]; exact hu, hkeep _ _ hr⟩
  · cases dst <;> simp [Act.put, h.size]
  · cases dst <;> exact h.marks k (fun _ hf => hf.elim)

/-- An operation that only reads, and yields d; a call among them may make memory. -/
def Pure (P : Program) (H : Hp) (o : Oper) (env : Env) (d : D) : Prop :=
  ∀ (w : World) (F : Nat → Prop) (a : Act), HeapOK w (both F H) H → Foreign P F w (own H) →
    (∀ x ∈ o.op.operands, ∀ dx, opD env x = some dx → Rep w (both F H) dx (a.eval x)) →
    ∀ (r : Option Nat) (next : Act → World → Prop) (Q : Exit → Act → World → Prop), (∀ v w', Rep w' (both F H) d v → Kept no w w' → next (a.put o.dst v) w') → o.wpIn (fen r) 0 P a w next Q

theorem Sat.F_lt {a : Act} {w : World} (h : Sat K env H a w) : Foreign K.P K.F w (own H) := ⟨fun g hg =>
  ⟨Nat.lt_of_lt_of_le (h.foreign g hg).1 h.kept.size, fun ho => by
    rcases h.fresh g ho with hs | hs
    · exact (h.foreign g hg).2 hs
    · have := (h.foreign g hg).1; omega⟩, h.foreign.glob.move h.kept (fun _ h => .inl h) h.fresh⟩

theorem Pure.wp {o : Oper} {d : D} (hp : Pure K.P H o env d) {a : Act} {w : World} (hs : Sat K env H a w) (hd : ∀ t, o.dst = some t → t < K.n)
    {next : Act → World → Prop} {Q' : Exit → Act → World → Prop} (h : ∀ a' w', Sat K (env.putO o.dst (some d)) H a' w' → next a' w') : o.wpIn (fen K.r) 0 K.P a w next Q' :=
  hp w K.F a hs.heap hs.F_lt (fun _ _ _ hx => hs.eval hx) K.r next Q' fun v w' hr k => h _ _ (hs.put k hd fun d' hd' => by cases hd'; exact hr)

def boolIs : Value → Bool → Bool
  | .bool c, want => c == want
  | _, _ => false
theorem Sat.val {a : Act} {w : World} (hs : Sat K env H a w) {t : Nat} {x : Value} (h : env t = some (.v x)) : a.tmps[t]? = some x := by
  obtain ⟨u, hu, hr⟩ := hs.tmps t _ h
  rw [hu, Rep.of_v hr]
/-- May operation o run: its guard's value. -/
def Want (ops : Array Oper) (o : Oper) (env : Env) (b : Bool) : Prop :=
  match o.guard with
  | none => b = true
  | some (j, want) => ∃ t x, (ops[j]?).bind (·.dst) = some t ∧ env t = some (.v x) ∧ b = boolIs x want

theorem Want.wanted {ops : Array Oper} {o : Oper} {b : Bool} (h : Want ops o env b) {a : Act} {w : World} (hs : Sat K env H a w) : Region.wanted o (yielded ops a.tmps) = b := by
  unfold Want at h
  unfold Region.wanted
  cases hg : o.guard with
  | none => simp only [hg] at h; exact h.symm
  | some p =>
    obtain ⟨j, want⟩ := p
    simp only [hg] at h
    obtain ⟨t, x, ht, hc, hb⟩ := h
    subst hb
    have := hs.val hc
    simp only [yielded, ht, Option.bind_some, this]
    cases x <;> rfl

theorem TL.run {ops : Array Oper} {o : Oper} {rest : List Oper} {d : D} (hw : Want ops o env true) (hp : Pure K.P H o env d) (hd : ∀ t, o.dst = some t → t < K.n)
    (h : TL K ops rest Q (env.putO o.dst (some d)) H) : TL K ops (o :: rest) Q env H := fun a w hs => by
  unfold wpListIn
  rw [if_pos (hw.wanted hs)]
  exact (hp.wp hs hd fun a' w' hs' => h a' w' hs')

theorem TL.pass {ops : Array Oper} {o : Oper} {rest : List Oper} (hw : Want ops o env false) (hd : ∀ t, o.dst = some t → t < K.n)
    (h : TL K ops rest Q (env.putO o.dst (some (.v undef))) H) : TL K ops (o :: rest) Q env H := fun a w hs => by
  unfold wpListIn
  rw [if_neg (by rw [hw.wanted hs]; simp)]
  exact ⟨fun _ _ => trivial, h _ _ (hs.put (Kept.refl _ _) hd (fun d hd => by cases hd; exact .v _))⟩

end
end Go.Ob
