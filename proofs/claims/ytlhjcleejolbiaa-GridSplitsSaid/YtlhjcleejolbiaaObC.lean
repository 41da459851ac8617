/- A region that draws its order, all of whose operations only read: one walk in the order of the text serves every order. -/
import Derived.Test.YtlhjcleejolbiaaObB
set_option linter.unusedVariables false
set_option linter.unusedSimpArgs false
set_option linter.unusedSectionVars false
namespace Go.Ob
open Go.RowKit

section
variable {P : Program} {ops : Array Oper} {md : Region.Mode} {H : Hp} {n : Nat}

theorem Env.put_other {env : Env} {t : Nat} {od : Option D} {t' : Nat} (h : t' ≠ t) : (env.put t od) t' = env t' := by
  unfold Env.put
  have hb : Nat.beq t' t = false := by
    cases hb : Nat.beq t' t with
    | false => rfl
    | true => exact absurd (Nat.eq_of_beq_eq_true hb) h
  rw [hb]; rfl
theorem Env.put_same {env : Env} {t : Nat} {od : Option D} : (env.put t od) t = od := by
  unfold Env.put
  rw [Nat.beq_refl]; rfl

theorem Env.putO_comm (env : Env) {x y : Option Nat} (u v : Option D) (h : ∀ d, x = some d → y ≠ some d) : (env.putO x u).putO y v = (env.putO y v).putO x u := by
  cases x with
  | none => rfl
  | some d =>
    cases y with
    | none => rfl
    | some e =>
      have hne : e ≠ d := fun he => h d rfl (he ▸ rfl)
      funext t
      simp only [Env.putO]
      by_cases ht : t = e
      · subst ht; rw [Env.put_same, Env.put_other hne, Env.put_same]
      · by_cases htd : t = d
        · subst htd; rw [Env.put_other ht, Env.put_same, Env.put_same]
        · rw [Env.put_other ht, Env.put_other htd, Env.put_other htd, Env.put_other ht]

theorem opD_putO {env : Env} {dst : Option Nat} {od : Option D} {x : Operand} (h : ∀ d, dst = some d → x ≠ .tmp d) : opD (env.putO dst od) x = opD env x := by
  cases dst with
  | none => rfl
  | some d =>
    cases x with
    | tmp t =>
      have hne : t ≠ d := fun e => h d rfl (e ▸ rfl)
      simp only [opD, Env.putO]
      exact Env.put_other hne
    | _ => rfl

theorem Pure.congr {o : Oper} {env env' : Env} {d : D} (hp : Pure P H o env d) (h : ∀ x ∈ o.op.operands, opD env' x = opD env x) : Pure P H o env' d :=
  fun w F a hh hF hx r next Q hn => hp w F a hh hF (fun x hxm dx hd => hx x hxm dx (by rw [h x hxm]; exact hd)) r next Q hn

theorem Pure.putO {o : Oper} {env : Env} {d : D} {dst : Option Nat} {od : Option D} (h : ∀ t, dst = some t → t ∉ o.looksAt ops) :
    Pure P H o (env.putO dst od) d ↔ Pure P H o env d := by
  have he : ∀ x ∈ o.op.operands, opD (env.putO dst od) x = opD env x := fun x hx => opD_putO fun t ht hxt => h t ht (by
    subst hxt
    exact List.mem_append_left _ (List.mem_filterMap.2 ⟨.tmp t, by simpa using hx, rfl⟩))
  exact ⟨fun hp => hp.congr fun x hx => (he x hx).symm, fun hp => hp.congr he⟩

theorem Want.putO {o : Oper} {env : Env} {b : Bool} {dst : Option Nat} {od : Option D} (h : ∀ t, dst = some t → t ∉ o.looksAt ops) :
    Want ops o (env.putO dst od) b ↔ Want ops o env b := by
  unfold Want
  cases hg : o.guard with
  | none => exact Iff.rfl
  | some p =>
    obtain ⟨j, want⟩ := p
    simp only
    have hk : ∀ t, (ops[j]?).bind (·.dst) = some t → (env.putO dst od) t = env t := by
      intro t ht
      cases dst with
      | none => rfl
      | some d =>
        simp only [Env.putO]
        refine Env.put_other fun e => h d rfl ?_
        subst e
        refine List.mem_append_right _ ?_
        simp only [hg, ht]
        simp
    constructor
    · rintro ⟨t, c, ht, hc, hb⟩; exact ⟨t, c, ht, by rw [← hk t ht]; exact hc, hb⟩
    · rintro ⟨t, c, ht, hc, hb⟩; exact ⟨t, c, ht, by rw [hk t ht]; exact hc, hb⟩

def stepA (P : Program) (ops : Array Oper) (H : Hp) (n : Nat) (o : Oper) (Kt : Env → Prop) (env : Env) : Prop :=
  (∀ t, o.dst = some t → t < n) ∧
  ((Want ops o env true ∧ ∃ d, Pure P H o env d ∧ Kt (env.putO o.dst (some d))) ∨ (Want ops o env false ∧ Kt (env.putO o.dst (some (.v undef)))))

def qA (P : Program) (ops : Array Oper) (H : Hp) (n : Nat) (i : Nat) (Kt : Env → Prop) (env : Env) : Prop :=
  match ops[i]? with
  | none => Kt env
  | some o => stepA P ops H n o Kt env

/-- the walk in the order of the text -/
def lexA (P : Program) (ops : Array Oper) (H : Hp) (n : Nat) (Q : Env → Prop) : List Oper → Env → Prop
  | [], env => Q env
  | o :: rest, env => stepA P ops H n o (lexA P ops H n Q rest) env

def anyA (P : Program) (md : Region.Mode) (ops : Array Oper) (H : Hp) (n : Nat) (Q : Env → Prop) : Nat → Array Bool → Env → Prop
  | 0, listed, env => Region.ready md ops listed = [] ∧ Q env
  | fuel + 1, listed, env =>
    (Region.ready md ops listed = [] → Q env) ∧
    ∀ i ∈ Region.ready md ops listed, qA P ops H n i (anyA P md ops H n Q fuel (listed.setIfInBounds i true)) env

theorem stepA_mono {o : Oper} {Kt Kt' : Env → Prop} {env : Env} (h : ∀ e, Kt e → Kt' e) (hh : stepA P ops H n o Kt env) : stepA P ops H n o Kt' env :=
  ⟨hh.1, hh.2.imp (fun ⟨hw, d, hp, hk⟩ => ⟨hw, d, hp, h _ hk⟩) (fun ⟨hw, hk⟩ => ⟨hw, h _ hk⟩)⟩
theorem qA_mono {i : Nat} {Kt Kt' : Env → Prop} {env : Env} (h : ∀ e, Kt e → Kt' e) (hh : qA P ops H n i Kt env) : qA P ops H n i Kt' env := by
  unfold qA at *
  split
  · exact h _ (by simpa [*] using hh)
  · rename_i o ho
    simp only [ho] at hh
    exact stepA_mono h hh

def Yields (P : Program) (ops : Array Oper) (H : Hp) (o : Oper) (od : Option D) (env : Env) : Prop :=
  (Want ops o env true ∧ ∃ d, od = some d ∧ Pure P H o env d) ∨ (Want ops o env false ∧ od = some (.v undef))

theorem Yields.putO {o : Oper} {od : Option D} {env : Env} {dst : Option Nat} {od' : Option D} (h : ∀ t, dst = some t → t ∉ o.looksAt ops) :
    Yields P ops H o od (env.putO dst od') ↔ Yields P ops H o od env := by
  unfold Yields
  rw [Want.putO h, Want.putO h]
  constructor
  · rintro (⟨hw, d, hd, hp⟩ | hh)
    · exact .inl ⟨hw, d, hd, (Pure.putO h).1 hp⟩
    · exact .inr hh
  · rintro (⟨hw, d, hd, hp⟩ | hh)
    · exact .inl ⟨hw, d, hd, (Pure.putO h).2 hp⟩
    · exact .inr hh

theorem Yields.qA {i : Nat} {o : Oper} {od : Option D} {env : Env} (hi : ops[i]? = some o) (hn : ∀ t, o.dst = some t → t < n) (hy : Yields P ops H o od env)
    {Kt : Env → Prop} (h : Kt (env.putO o.dst od)) : qA P ops H n i Kt env := by
  unfold Ob.qA
  simp only [hi]
  refine ⟨hn, ?_⟩
  rcases hy with ⟨hw, d, rfl, hp⟩ | ⟨hw, rfl⟩
  · exact .inl ⟨hw, d, hp, h⟩
  · exact .inr ⟨hw, h⟩

theorem yields_of_step {o : Oper} {env : Env} {Kt : Env → Prop} (h : stepA P ops H n o Kt env) : ∃ od, Yields P ops H o od env ∧ Kt (env.putO o.dst od) := by
  rcases h.2 with ⟨hw, d, hp, hk⟩ | ⟨hw, hk⟩
  · exact ⟨some d, .inl ⟨hw, d, rfl, hp⟩, hk⟩
  · exact ⟨some (.v undef), .inr ⟨hw, rfl⟩, hk⟩

theorem qA_put {j : Nat} {oi oj : Oper} {od : Option D} (hj : ops[j]? = some oj) (hap : oi.apart ops oj = true) {Kt : Env → Prop} {env : Env}
    (hy : Yields P ops H oi od env) (h : qA P ops H n j Kt (env.putO oi.dst od)) :
    qA P ops H n j (fun e => Yields P ops H oi od e ∧ Kt (e.putO oi.dst od)) env := by
  obtain ⟨h1, h2, h3⟩ := Oper.apart_spec hap
  unfold qA at *
  simp only [hj] at *
  refine ⟨h.1, ?_⟩
  rcases h.2 with ⟨hw, d, hp, hk⟩ | ⟨hw, hk⟩
  · refine .inl ⟨(Want.putO h1).1 hw, d, (Pure.putO h1).1 hp, (Yields.putO h3).2 hy, ?_⟩
    rw [← Env.putO_comm env od (some d) h2]; exact hk
  · refine .inr ⟨(Want.putO h1).1 hw, (Yields.putO h3).2 hy, ?_⟩
    rw [← Env.putO_comm env od (some (.v undef)) h2]; exact hk

theorem anyA_first {Q : Env → Prop} {i : Nat} {oi : Oper} {od : Option D} (hi : ops[i]? = some oi) (hn : ∀ t, oi.dst = some t → t < n) :
    ∀ (fuel : Nat) (listed : Array Bool) (env : Env),
      (∀ j oj, ops[j]? = some oj → j ≠ i → listed.getD j true = false → (∀ e ∈ oj.after, Region.binds md e = true → e.on ≠ i) → oi.apart ops oj = true) →
      i ∈ Region.ready md ops listed → Yields P ops H oi od env →
      anyA P md ops H n Q fuel (listed.setIfInBounds i true) (env.putO oi.dst od) → anyA P md ops H n Q (fuel + 1) listed env := by
  intro fuel
  induction fuel with
  | zero =>
    intro listed env _ hr hy HH
    refine ⟨fun h => (by rw [h] at hr; cases hr), fun j hj => ?_⟩
    by_cases hji : j = i
    · subst hji; exact hy.qA hi hn HH
    · have := ready_mono hj hji
      rw [HH.1] at this
      cases this
  | succ fuel ih =>
    intro listed env hfree hr hy HH
    refine ⟨fun h => (by rw [h] at hr; cases hr), fun j hj => ?_⟩
    by_cases hji : j = i
    · subst hji; exact hy.qA hi hn HH
    · have h1 := HH.2 j (ready_mono hj hji)
      obtain ⟨hjun, oj, hoj, hall⟩ := mem_ready.1 hj
      have hnot : ∀ e ∈ oj.after, Region.binds md e = true → e.on ≠ i := fun e he hb heq => by
        have h1 := hall e he hb
        have h0 := (mem_ready.1 hr).1
        rw [heq] at h1
        rcases Nat.lt_or_ge i listed.size with h' | h'
        · simp [h'] at h0 h1; rw [h0] at h1; cases h1
        · simp [Array.getElem?_eq_none h'] at h1
      have h2 := qA_put hoj (hfree j oj hoj hji hjun hnot) hy h1
      have hfree' : ∀ k ok, ops[k]? = some ok → k ≠ i → (listed.setIfInBounds j true).getD k true = false →
          (∀ e ∈ ok.after, Region.binds md e = true → e.on ≠ i) → oi.apart ops ok = true := fun k ok hk hki hun hno => by
        refine hfree k ok hk hki ?_ hno
        by_cases hjk : j = k
        · subst hjk; exact hjun
        · rw [getD_set_ne true hjk] at hun; exact hun
      refine qA_mono (fun e h3 => ih (listed.setIfInBounds j true) e hfree' (ready_mono hr (Ne.symm hji)) h3.1 ?_) h2
      rw [Array.setIfInBounds_comm _ _ hji]
      exact h3.2

theorem anyA_lex {Q : Env → Prop} : ∀ (l : List Oper) (k : Nat) (listed : Array Bool) (env : Env), (∀ j, l[j]? = ops[k + j]?) →
    Region.lexFrom md ops l.length k listed = true → lexA P ops H n Q l env → anyA P md ops H n Q l.length listed env
  | [], _, _, _, _, hB, h => ⟨by simpa [Region.lexFrom] using hB, h⟩
  | o :: l, k, listed, env, hl, hB, h => by
    have h0 : ops[k]? = some o := by simpa using (hl 0).symm
    simp only [List.length_cons, Region.lexFrom, Bool.and_eq_true] at hB
    obtain ⟨⟨hr, hf⟩, hB'⟩ := hB
    obtain ⟨od, hy, hK⟩ := yields_of_step (show stepA P ops H n o (lexA P ops H n Q l) env from h)
    exact anyA_first h0 h.1 l.length listed env (Region.free_spec h0 hf) (by simpa using hr) hy
      (anyA_lex l (k + 1) _ _ (fun j => by have := hl (j + 1); simpa [Nat.add_assoc, Nat.add_comm 1 j] using this) hB' hK)

theorem wpAny_of_anyA {K : Ctx} {Q : Env → Prop} {Q' : Exit → Act → World → Prop} (hn : K.n = n) (hQ : ∀ env a w, Q env → Sat K env H a w → Q' .normal a w) :
    ∀ (fuel : Nat) (listed : Array Bool) (env : Env) (a : Act) (w : World), Sat K env H a w →
      anyA K.P md ops H n Q fuel listed env → wpAnyIn (fen K.r) 0 K.P md ops Q' fuel listed a w
  | 0, _, _, _, _, hs, h => ⟨h.1, hQ _ _ _ h.2 hs⟩
  | fuel + 1, _, env, a, w, hs, h => ⟨fun h0 => hQ _ _ _ (h.1 h0) hs, fun i hi => by
    have h1 := h.2 i hi
    unfold qA at h1
    unfold wpOpIn
    split
    · rename_i ho
      simp only [ho] at h1
      exact wpAny_of_anyA hn hQ fuel _ _ _ _ hs h1
    · rename_i o ho
      simp only [ho] at h1
      obtain ⟨hd, h1⟩ := h1
      rcases h1 with ⟨hw, d, hp, hk⟩ | ⟨hw, hk⟩
      · rw [if_pos (hw.wanted hs)]
        exact (hp.wp hs (hn ▸ hd) fun a' w' hs' => wpAny_of_anyA hn hQ fuel _ _ _ _ hs' hk)
      · rw [if_neg (by rw [hw.wanted hs]; simp)]
        exact ⟨fun _ _ => trivial, wpAny_of_anyA hn hQ fuel _ _ _ _ (hs.put (Kept.refl _ _) (hn ▸ hd) (fun d hd => by cases hd; exact .v _)) hk⟩⟩

end

section
variable {K : Ctx} {Q : Exit → Env → Hp → Prop} {env : Env} {H : Hp}

theorem Sat.drew {a : Act} {w : World} (h : Sat K env H a w) : Sat K env H a { w with drawn := w.drawn + 1 } :=
  h.put (dst := none) (od := none) (v := undef) (Kept.drew _ w) (fun _ h => by cases h) (fun _ h => by cases h)

/-- The region's walk: over data alone. -/
def TD (K : Ctx) (ops : Array Oper) (l : List Oper) (Q : Exit → Env → Hp → Prop) (env : Env) (H : Hp) : Prop := lexA K.P ops H K.n (fun e => Q .normal e H) l env

theorem TC.draw {id : Nat} {l : List Oper} (hm : K.P.follows .mixedOrders = true) (hB : Region.lexB .any l.toArray = true) (h : TD K l.toArray l Q env H) :
    TC K (.region id l.toArray true) Q env H := fun a w hs => by
  simp only [Region.lexB, Bool.and_eq_true] at hB
  refine wpIn_region_any hm (wpAny_of_anyA (n := K.n) (Q := fun e => Q .normal e H) rfl (fun env a w hq hs => ⟨env, H, hs, hq⟩) _ _ _ _ _ hs.drew ?_)
  have := anyA_lex (P := K.P) (H := H) (n := K.n) (md := .any) (Q := fun e => Q .normal e H) l 0 (Array.replicate l.toArray.size false) env (by simp) (by simpa using hB.2) h
  simpa using this

theorem TD.nil {ops : Array Oper} (h : Q .normal env H) : TD K ops [] Q env H := h
theorem TD.nil' {ops : Array Oper} {c : Code} (h : TC K c Q env H) : TD K ops [] (thenA K c Q) env H := h
theorem TD.run {ops : Array Oper} {o : Oper} {rest : List Oper} {d : D} (hw : Want ops o env true) (hp : Pure K.P H o env d) (hd : ∀ t, o.dst = some t → t < K.n)
    (h : TD K ops rest Q (env.putO o.dst (some d)) H) : TD K ops (o :: rest) Q env H := ⟨hd, .inl ⟨hw, d, hp, h⟩⟩
theorem TD.pass {ops : Array Oper} {o : Oper} {rest : List Oper} (hw : Want ops o env false) (hd : ∀ t, o.dst = some t → t < K.n)
    (h : TD K ops rest Q (env.putO o.dst (some (.v undef))) H) : TD K ops (o :: rest) Q env H := ⟨hd, .inr ⟨hw, h⟩⟩

end
end Go.Ob
