import Derived.Test.YtlhjcleejolbiaaSp
set_option linter.unusedVariables false
set_option linter.unusedSimpArgs false
namespace Go.Ob
open Go.Proofs
/-! ### the same, with early operations that read more than those among the special ones -/
section
variable {P : Program} {ops : Array Oper} {md : Region.Mode} {H : Oper → Hp} {n : Nat}
def stepF (P : Program) (ops : Array Oper) (H : Oper → Hp) (n : Nat) (o : Oper) (Kt : Env → Prop) (env : Env) : Prop :=
  (∀ t, o.dst = some t → t < n) ∧
  ((Want ops o env true ∧ ∃ d, Pure P (H o) o env d ∧ Kt (env.putO o.dst (some d))) ∨ (Want ops o env false ∧ Kt (env.putO o.dst (some (.v undef)))))

def qF (P : Program) (ops : Array Oper) (H : Oper → Hp) (n : Nat) (i : Nat) (Kt : Env → Prop) (env : Env) : Prop :=
  match ops[i]? with
  | none => Kt env
  | some o => stepF P ops H n o Kt env

/-- the walk in the order of the text -/
def lexF (P : Program) (ops : Array Oper) (H : Oper → Hp) (n : Nat) (Q : Env → Prop) : List Oper → Env → Prop
  | [], env => Q env
  | o :: rest, env => stepF P ops H n o (lexF P ops H n Q rest) env

def anyF (P : Program) (md : Region.Mode) (ops : Array Oper) (H : Oper → Hp) (n : Nat) (Q : Env → Prop) : Nat → Array Bool → Env → Prop
  | 0, listed, env => Region.ready md ops listed = [] ∧ Q env
  | fuel + 1, listed, env =>
    (Region.ready md ops listed = [] → Q env) ∧
    ∀ i ∈ Region.ready md ops listed, qF P ops H n i (anyF P md ops H n Q fuel (listed.setIfInBounds i true)) env

theorem stepF_mono {o : Oper} {Kt Kt' : Env → Prop} {env : Env} (h : ∀ e, Kt e → Kt' e) (hh : stepF P ops H n o Kt env) : stepF P ops H n o Kt' env :=
  ⟨hh.1, hh.2.imp (fun ⟨hw, d, hp, hk⟩ => ⟨hw, d, hp, h _ hk⟩) (fun ⟨hw, hk⟩ => ⟨hw, h _ hk⟩)⟩
theorem qF_mono {i : Nat} {Kt Kt' : Env → Prop} {env : Env} (h : ∀ e, Kt e → Kt' e) (hh : qF P ops H n i Kt env) : qF P ops H n i Kt' env := by
  unfold qF at *
  split
  · exact h _ (by simpa [*] using hh)
  · rename_i o ho
    simp only [ho] at hh
    exact stepF_mono h hh

def YieldsF (P : Program) (ops : Array Oper) (H : Oper → Hp) (o : Oper) (od : Option D) (env : Env) : Prop :=
  (Want ops o env true ∧ ∃ d, od = some d ∧ Pure P (H o) o env d) ∨ (Want ops o env false ∧ od = some (.v undef))

theorem YieldsF.putO {o : Oper} {od : Option D} {env : Env} {dst : Option Nat} {od' : Option D} (h : ∀ t, dst = some t → t ∉ o.looksAt ops) :
    YieldsF P ops H o od (env.putO dst od') ↔ YieldsF P ops H o od env := by
  unfold YieldsF
  rw [Want.putO h, Want.putO h]
  constructor
  · rintro (⟨hw, d, hd, hp⟩ | hh)
    · exact .inl ⟨hw, d, hd, (Pure.putO h).1 hp⟩
    · exact .inr hh
  · rintro (⟨hw, d, hd, hp⟩ | hh)
    · exact .inl ⟨hw, d, hd, (Pure.putO h).2 hp⟩
    · exact .inr hh

theorem YieldsF.qF {i : Nat} {o : Oper} {od : Option D} {env : Env} (hi : ops[i]? = some o) (hn : ∀ t, o.dst = some t → t < n) (hy : YieldsF P ops H o od env)
    {Kt : Env → Prop} (h : Kt (env.putO o.dst od)) : qF P ops H n i Kt env := by
  unfold Ob.qF
  simp only [hi]
  refine ⟨hn, ?_⟩
  rcases hy with ⟨hw, d, rfl, hp⟩ | ⟨hw, rfl⟩
  · exact .inl ⟨hw, d, hp, h⟩
  · exact .inr ⟨hw, h⟩

theorem yieldsF_of_step {o : Oper} {env : Env} {Kt : Env → Prop} (h : stepF P ops H n o Kt env) : ∃ od, YieldsF P ops H o od env ∧ Kt (env.putO o.dst od) := by
  rcases h.2 with ⟨hw, d, hp, hk⟩ | ⟨hw, hk⟩
  · exact ⟨some d, .inl ⟨hw, d, rfl, hp⟩, hk⟩
  · exact ⟨some (.v undef), .inr ⟨hw, rfl⟩, hk⟩

theorem qF_put {j : Nat} {oi oj : Oper} {od : Option D} (hj : ops[j]? = some oj) (hap : oi.apart ops oj = true) {Kt : Env → Prop} {env : Env}
    (hy : YieldsF P ops H oi od env) (h : qF P ops H n j Kt (env.putO oi.dst od)) :
    qF P ops H n j (fun e => YieldsF P ops H oi od e ∧ Kt (e.putO oi.dst od)) env := by
  obtain ⟨h1, h2, h3⟩ := Oper.apart_spec hap
  unfold qF at *
  simp only [hj] at *
  refine ⟨h.1, ?_⟩
  rcases h.2 with ⟨hw, d, hp, hk⟩ | ⟨hw, hk⟩
  · refine .inl ⟨(Want.putO h1).1 hw, d, (Pure.putO h1).1 hp, (YieldsF.putO h3).2 hy, ?_⟩
    rw [← Env.putO_comm env od (some d) h2]; exact hk
  · refine .inr ⟨(Want.putO h1).1 hw, (YieldsF.putO h3).2 hy, ?_⟩
    rw [← Env.putO_comm env od (some (.v undef)) h2]; exact hk

theorem anyF_first {Q : Env → Prop} {i : Nat} {oi : Oper} {od : Option D} (hi : ops[i]? = some oi) (hn : ∀ t, oi.dst = some t → t < n) :
    ∀ (fuel : Nat) (listed : Array Bool) (env : Env),
      (∀ j oj, ops[j]? = some oj → j ≠ i → listed.getD j true = false → (∀ e ∈ oj.after, Region.binds md e = true → e.on ≠ i) → oi.apart ops oj = true) →
      i ∈ Region.ready md ops listed → YieldsF P ops H oi od env →
      anyF P md ops H n Q fuel (listed.setIfInBounds i true) (env.putO oi.dst od) → anyF P md ops H n Q (fuel + 1) listed env := by
  intro fuel
  induction fuel with
  | zero =>
    intro listed env _ hr hy HH
    refine ⟨fun h => (by rw [h] at hr; cases hr), fun j hj => ?_⟩
    by_cases hji : j = i
    · subst hji; exact hy.qF hi hn HH
    · have := ready_mono hj hji
      rw [HH.1] at this
      cases this
  | succ fuel ih =>
    intro listed env hfree hr hy HH
    refine ⟨fun h => (by rw [h] at hr; cases hr), fun j hj => ?_⟩
    by_cases hji : j = i
    · subst hji; exact hy.qF hi hn HH
    · have h1 := HH.2 j (ready_mono hj hji)
      obtain ⟨hjun, oj, hoj, hall⟩ := mem_ready.1 hj
      have hnot : ∀ e ∈ oj.after, Region.binds md e = true → e.on ≠ i := fun e he hb heq => by
        have h1 := hall e he hb
        have h0 := (mem_ready.1 hr).1
        rw [heq] at h1
        rcases Nat.lt_or_ge i listed.size with h' | h'
        · simp [h'] at h0 h1; rw [h0] at h1; cases h1
        · simp [Array.getElem?_eq_none h'] at h1
      have h2 := qF_put hoj (hfree j oj hoj hji hjun hnot) hy h1
      have hfree' : ∀ k ok, ops[k]? = some ok → k ≠ i → (listed.setIfInBounds j true).getD k true = false →
          (∀ e ∈ ok.after, Region.binds md e = true → e.on ≠ i) → oi.apart ops ok = true := fun k ok hk hki hun hno => by
        refine hfree k ok hk hki ?_ hno
        by_cases hjk : j = k
        · subst hjk; exact hjun
        · rw [getD_set_ne true hjk] at hun; exact hun
      refine qF_mono (fun e h3 => ih (listed.setIfInBounds j true) e hfree' (ready_mono hr (Ne.symm hji)) h3.1 ?_) h2
      rw [Array.setIfInBounds_comm _ _ hji]
      exact h3.2

theorem anyF_lex {Q : Env → Prop} : ∀ (l : List Oper) (k : Nat) (listed : Array Bool) (env : Env), (∀ j, l[j]? = ops[k + j]?) →
    Region.lexFrom md ops l.length k listed = true → lexF P ops H n Q l env → anyF P md ops H n Q l.length listed env
  | [], _, _, _, _, hB, h => ⟨by simpa [Region.lexFrom] using hB, h⟩
  | o :: l, k, listed, env, hl, hB, h => by
    have h0 : ops[k]? = some o := by simpa using (hl 0).symm
    simp only [List.length_cons, Region.lexFrom, Bool.and_eq_true] at hB
    obtain ⟨⟨hr, hf⟩, hB'⟩ := hB
    obtain ⟨od, hy, hK⟩ := yieldsF_of_step (show stepF P ops H n o (lexF P ops H n Q l) env from h)
    exact anyF_first h0 h.1 l.length listed env (Region.free_spec h0 hf) (by simpa using hr) hy
      (anyF_lex l (k + 1) _ _ (fun j => by have := hl (j + 1); simpa [Nat.add_assoc, Nat.add_comm 1 j] using this) hB' hK)

end
section
variable {K : Ctx} {ops : Array Oper} {Hs H0 Hy : Hp} {Qp : Env → Prop} {Qf : Exit → Env → Hp → Prop} {tl : List Oper}
theorem anyF_last {H : Oper → Hp} {m : Nat} {pre : Array Oper} (hback : ∀ (j : Nat) (o : Oper), pre[j]? = some o → ∀ e ∈ o.after, Region.binds .any e = true → e.on < j) (hpz : pre.size = m) :
    ∀ (fuel : Nat) (L : Array Bool) (env : Env), L.size = m → L.toList.count false = fuel → anyF K.P .any pre H K.n Qp fuel L env →
      ∃ envF, Qp envF ∧ ∀ t, (∀ i o, pre[i]? = some o → L.getD i true = false → o.dst ≠ some t) → envF t = env t := by
  intro fuel
  induction fuel with
  | zero => intro L env hL hc h; exact ⟨env, h.2, fun t _ => rfl⟩
  | succ fuel ih =>
    intro L env hL hc h
    obtain ⟨i, hi, hif, hib⟩ := first_false (L := L) (by omega)
    have hipre : i < pre.size := by omega
    have hir : i ∈ Region.ready .any pre L := mem_ready.2 ⟨hif, pre[i], Array.getElem?_eq_getElem hipre, fun e he hb => hib _ (hback i pre[i] (Array.getElem?_eq_getElem hipre) e he hb)⟩
    have h1 := h.2 i hir
    have hc' : (L.setIfInBounds i true).toList.count false = fuel := by
      have hjl2 : i < L.toList.length := by simpa using hi
      have e1 : (L.setIfInBounds i true).toList = L.toList.set i true := by simp
      rw [e1, List.count_set hjl2]
      have : L.toList[i] = false := by simpa [Array.getD_eq_getD_getElem?, Array.getElem?_eq_getElem hi] using hif
      rw [this]
      simp only [beq_self_eq_true, if_true]
      have : (true == false) = false := rfl
      rw [this]
      simp only [Bool.false_eq_true, if_false]
      omega
    unfold qF at h1
    simp only [Array.getElem?_eq_getElem hipre] at h1
    have fin : ∀ od, anyF K.P .any pre H K.n Qp fuel (L.setIfInBounds i true) (env.putO pre[i].dst od) → ∃ envF, Qp envF ∧ ∀ t, (∀ i o, pre[i]? = some o → L.getD i true = false → o.dst ≠ some t) → envF t = env t := fun od hk => by
      obtain ⟨envF, hq, hf⟩ := ih _ _ (by simpa using hL) hc' hk
      refine ⟨envF, hq, fun t ht' => ?_⟩
      rw [hf t fun i' o' ho' hl' => ht' i' o' ho' (by
        by_cases hii : i = i'
        · subst hii; exact hif
        · rwa [getD_set_ne true hii] at hl')]
      have := ht' i pre[i] (Array.getElem?_eq_getElem hipre) hif
      cases hd : pre[i].dst with
      | none => rfl
      | some d =>
        rw [hd] at this
        exact Env.put_other fun e => this (by rw [e])
    rcases h1.2 with ⟨hw, d, hp, hk⟩ | ⟨hw, hk⟩
    · exact fin _ hk
    · exact fin _ hk

def early (E : List Nat) (o : Oper) : Bool := match o.dst with
  | some t => E.any (Nat.beq t)
  | none => false
def hpF (E : List Nat) (H0 Hs : Hp) (o : Oper) : Hp := cond (early E o) H0 Hs
theorem anyF_anyA {P : Program} {pre : Array Oper} {Hf : Oper → Hp} {n : Nat} {Q : Env → Prop} : ∀ (fuel : Nat) (L : Array Bool) (e : Env), (∀ i o, pre[i]? = some o → L.getD i true = false → Hf o = Hs) → anyF P .any pre Hf n Q fuel L e → anyA P .any pre Hs n Q fuel L e
  | 0, _, _, _, h => h
  | fuel + 1, L, e, hne, h => ⟨h.1, fun i hi => by
    have h1 := h.2 i hi
    obtain ⟨hl, _⟩ := mem_ready.1 hi
    have hne' : ∀ j o, pre[j]? = some o → (L.setIfInBounds i true).getD j true = false → Hf o = Hs := fun j o ho hj => by
      by_cases hij : i = j
      · subst hij; exact hne i o ho hl
      · rw [getD_set_ne true hij] at hj; exact hne j o ho hj
    unfold qF at h1
    unfold qA
    split
    · rename_i ho
      simp only [ho] at h1
      exact anyF_anyA fuel _ _ hne' h1
    · rename_i o ho
      simp only [ho] at h1
      refine ⟨h1.1, h1.2.imp (fun ⟨hw, d, hp, hk⟩ => ⟨hw, d, ?_, anyF_anyA fuel _ _ hne' hk⟩) (fun ⟨hw, hk⟩ => ⟨hw, anyF_anyA fuel _ _ hne' hk⟩)⟩
      rw [hne i o ho hl] at hp; exact hp⟩
/-- i comes before s, in some steps -/
def anc (ops : Array Oper) : Nat → Nat → Nat → Bool
  | 0, _, _ => false
  | f + 1, s, i => bindsOn .any ops s i || (List.range s).any fun p => bindsOn .any ops s p && anc ops f p i
theorem anc_done {L : Array Bool} (hd : Down .any ops L) : ∀ (f s i : Nat), anc ops f s i = true → (∀ p, bindsOn .any ops s p = true → L.getD p false = true) → L.getD i false = true
  | 0, _, _, h, _ => by cases h
  | f + 1, s, i, h, hs => by
    unfold anc at h
    rw [Bool.or_eq_true] at h
    rcases h with h | h
    · exact hs i h
    · rw [List.any_eq_true] at h
      obtain ⟨p, _, hp⟩ := h
      rw [Bool.and_eq_true] at hp
      refine anc_done hd f p i hp.2 fun q hq => ?_
      obtain ⟨o, ho, e, he, hb, heq⟩ := bindsOn_spec hq
      rw [← heq]
      exact hd p o ho (hs p hp.1) e he hb
/-- What the first special operation does; then SpOK. -/
def SqTop (K : Ctx) (ops : Array Oper) (H0 Hs : Hp) (Qp : Env → Prop) (Qf : Exit → Env → Hp → Prop) (tl : List Oper) (k : Nat) (sp : List Nat) (H : Hp) : Prop :=
  (∃ Hx, SplitR H H0 Hx) ∧ ∀ s ∈ sp, (∀ i ∈ sp, bindsOn .any ops s i = false) → ∃ o, ops[s]? = some o ∧ o.guard = none ∧
      ∀ E eF, Qp eF → (∀ x ∈ o.op.operands, opD E x = opD eF x) → TL K ops [o] (fun e E' H' => e = .normal ∧ ∃ od, E' = E.putO o.dst od ∧ SpOK K ops Hs Qp Qf tl k (sp.erase s) (ovp [] o.dst od) H') E H
theorem wpAny_sq {k : Nat} {E : List Nat} {m : Nat} {pre : Array Oper} {sp : List Nat} (ht : TailP .any ops m) (hsp : SpP ops m sp) (hpz : pre.size = m) (hpre : ∀ i, i < m → pre[i]? = (ops[i]?).map fun o => if sp.any (Nat.beq i) then mute o else o)
    (hback : ∀ (j : Nat) (o : Oper), pre[j]? = some o → ∀ e ∈ o.after, Region.binds .any e = true → e.on < j)
    (hk : sp.length = k + 1) (hnd : sp.Nodup) (h0s : SplitR H0 Hs Hy) (hea : ∀ i, i < m → i ∉ sp → ∀ o, ops[i]? = some o → early E o = true → ∀ s ∈ sp, anc ops m s i = true)
    (f : Nat) (hf : f = ops.size - m) (htl : ∀ i, tl[i]? = ops[m + i]?) :
    ∀ (fuel : Nat) (L : Array Bool) (H : Hp) (e : Env) (a : Act) (w : World), L.size = m → Down .any ops L → L.toList.count false = fuel →
      (∀ i ∈ sp, L.getD i true = false) → Sat K e H a w → SqTop K ops H0 Hs Qp Qf tl k sp H → anyF K.P .any pre (hpF E H0 Hs) K.n Qp fuel L e →
      wpAnyIn (fen K.r) 0 K.P .any ops (liftQ K Qf) (fuel + f) (lst L (ops.size - m)) a w := by
  intro fuel
  induction fuel with
  | zero =>
    intro L H e a w hL hd hc hr1 hsat hok h
    have hall := all_true hc
    exfalso
    cases sp with
    | nil => simp at hk
    | cons i rest =>
      have h1 := hr1 i (by simp)
      have h2 := hsp.lt i (by simp)
      rw [hall] at h1
      simp [Array.getD_eq_getD_getElem?, hL, h2] at h1
  | succ fuel ih =>
    intro L H e a w hL hd hc hr1 hsat hok h
    obtain ⟨i, hi, hif, hib⟩ := first_false (L := L) (by omega)
    have hif' : L.getD i false = false := by
      simp only [Array.getD_eq_getD_getElem?, Array.getElem?_eq_getElem hi, Option.getD_some] at hif ⊢
      exact hif
    have hiops : i < ops.size := by have := ht.lt; omega
    have hir : i ∈ Region.ready .any ops (lst L (ops.size - m)) := mem_ready.2 ⟨by rw [lst_get true hi]; exact hif, ops[i], Array.getElem?_eq_getElem hiops, fun e he hb => by
      have hlt := ht.back i _ (Array.getElem?_eq_getElem hiops) e he hb
      rw [lst_get false (by omega)]
      exact hib _ hlt⟩
    rw [show fuel + 1 + f = (fuel + f) + 1 by omega]
    refine ⟨fun h0 => (by rw [h0] at hir; cases hir), fun j hj => ?_⟩
    have hjm : j < m := ready_pre ht hL hd hj (hL ▸ hi) hif'
    obtain ⟨hjl, o, ho, hall⟩ := mem_ready.1 hj
    have hjL : j < L.size := by omega
    rw [lst_get true hjL] at hjl
    have hdown : Down .any ops (L.setIfInBounds j true) := fun j' o' ho' hl' e he hb => by
      by_cases hjj : j = j'
      · subst hjj
        rw [ho] at ho'; cases ho'
        have hlt := ht.back j o ho e he hb
        have := hall e he hb
        rw [lst_get false (by omega)] at this
        exact getD_set_true this
      · rw [getD_set_ne false hjj] at hl'
        exact getD_set_true (hd j' o' ho' hl' e he hb)
    have hcnt : (L.setIfInBounds j true).toList.count false = fuel := by
      have hjl2 : j < L.toList.length := by simpa using hjL
      have e1 : (L.setIfInBounds j true).toList = L.toList.set j true := by simp
      rw [e1, List.count_set hjl2]
      have : L.toList[j] = false := by
        have : L[j] = false := by simpa [Array.getD_eq_getD_getElem?, Array.getElem?_eq_getElem hjL] using hjl
        simpa using this
      rw [this]
      simp only [beq_self_eq_true, if_true]
      have : (true == false) = false := rfl
      rw [this]
      simp only [Bool.false_eq_true, if_false]
      omega
    have hset : ∀ i, (L.setIfInBounds j true).getD i true = false → i ≠ j ∧ L.getD i true = false := fun i h => by
      by_cases hij : j = i
      · subst hij
        simp [Array.getD_eq_getD_getElem?, hjL] at h
      · rw [getD_set_ne true hij] at h; exact ⟨fun e => hij e.symm, h⟩
    have hprej : pre[j]? = some (if sp.any (Nat.beq j) then mute o else o) := by rw [hpre j hjm, ho]; rfl
    have hjr : j ∈ Region.ready .any pre L := mem_ready.2 ⟨hjl, _, hprej, fun e he hb => by
      have he' : e ∈ o.after := by
        by_cases hs : sp.any (Nat.beq j) = true
        · rw [if_pos hs] at he; exact he
        · rw [if_neg hs] at he; exact he
      have hlt := ht.back j o ho e he' hb
      have := hall e he' hb
      rwa [lst_get false (by omega)] at this⟩
    have h1 := h.2 j hjr
    unfold qF at h1
    simp only [hprej] at h1
    unfold wpOpIn
    simp only [ho]
    by_cases hjs : j ∈ sp
    · -- a special one
      rw [if_pos (any_beq.2 hjs)] at h1
      obtain ⟨envF, hqF, hF⟩ := anyF_last hback hpz (fuel + 1) L e hL hc h
      have hbnd : ∀ i, bindsOn .any ops j i = true → L.getD i true = false → False := fun i hb hl => by
        obtain ⟨o2, ho2, ed, he, hb, heq⟩ := bindsOn_spec hb
        rw [ho] at ho2; cases ho2
        have hlt := ht.back j o ho ed he hb
        have := hall ed he hb
        rw [heq, lst_get false (by omega)] at this
        rw [heq] at hlt
        have hiL : i < L.size := by omega
        simp only [Array.getD_eq_getD_getElem?, Array.getElem?_eq_getElem hiL, Option.getD_some] at this hl
        rw [this] at hl; cases hl
      obtain ⟨o', ho', hg, hst⟩ := hok.2 j hjs fun i hi => by
        cases hb : bindsOn .any ops j i with
        | false => rfl
        | true => exact (hbnd i hb (hr1 i hi)).elim
      rw [ho] at ho'; cases ho'
      have hopd : ∀ x ∈ o.op.operands, opD e x = opD envF x := fun x hx => by
        cases x with
        | tmp t =>
          refine (hF t fun i' o1 ho1 hl1 hd1 => ?_).symm
          have hi' : i' < m := by rw [← hpz]; exact (Array.getElem?_eq_some_iff.1 ho1).1
          rw [hpre i' hi'] at ho1
          obtain ⟨o2, ho2, he2⟩ := Option.map_eq_some_iff.1 ho1
          by_cases hs2 : sp.any (Nat.beq i') = true
          · rw [if_pos hs2] at he2; subst he2; simp [mute] at hd1
          · rw [if_neg hs2] at he2; subst he2
            exact hbnd i' (hsp.feeds j hjs o ho t hx i' hi' (fun h => hs2 (any_beq.2 h)) o2 ho2 hd1) hl1
        | _ => rfl
      have h2 := hst e envF hqF hopd a w hsat
      have hwt : Region.wanted o (yielded ops a.tmps) = true := by unfold Region.wanted; rw [hg]
      unfold wpListIn at h2
      rw [if_pos hwt] at h2 ⊢
      refine Oper.wpIn_both (fun a' w' hx => ?_) (fun e a w hn hx => ?_) h2
      · obtain ⟨env', H', hs', _, od, rfl, hok'⟩ := hx
        have hs2 : Sat K (over (ovp [] o.dst od) e) H' a' w' := by rw [← over_put]; exact hs'
        have h3 : anyF K.P .any pre (hpF E H0 Hs) K.n Qp fuel (L.setIfInBounds j true) e := by
          rcases h1.2 with ⟨_, d, _, hk3⟩ | ⟨_, hk3⟩ <;> exact hk3
        have hpd : ∀ p, bindsOn .any ops j p = true → L.getD p false = true := fun p hb => by
          obtain ⟨o2, ho2, ed, he, hb2, heq⟩ := bindsOn_spec hb
          rw [ho] at ho2; cases ho2
          have hlt := ht.back j o ho ed he hb2
          have := hall ed he hb2
          rw [lst_get false (by omega)] at this
          rw [← heq]; exact this
        have h4 := anyF_anyA (Hs := Hs) fuel _ _ (fun i o1 ho1 hl1 => by
          have hi' : i < m := by rw [← hpz]; exact (Array.getElem?_eq_some_iff.1 ho1).1
          obtain ⟨h5, h6⟩ := hset i hl1
          unfold hpF
          cases hE : early E o1 with
          | false => rfl
          | true =>
            exfalso
            rw [hpre i hi'] at ho1
            obtain ⟨o2, ho2, he2⟩ := Option.map_eq_some_iff.1 ho1
            by_cases hs3 : sp.any (Nat.beq i) = true
            · rw [if_pos hs3] at he2; subst he2; simp [early, mute] at hE
            · rw [if_neg hs3] at he2; subst he2
              have h7 := anc_done hd m j i (hea i hi' (fun h => hs3 (any_beq.2 h)) o2 ho2 hE j hjs) hpd
              have hiL : i < L.size := by omega
              simp only [Array.getD_eq_getD_getElem?, Array.getElem?_eq_getElem hiL, Option.getD_some] at h6 h7
              rw [h6] at h7; cases h7) h3
        rw [lst_set hjL]
        refine wpAny_sp (sp := sp) ht hsp hpz hpre hback f hf htl fuel _ k (sp.erase j) _ H' e a' w' (by simpa using hL) hdown hcnt (by rw [List.length_erase_of_mem hjs, hk]; rfl) (hnd.erase j) (fun i hi => ?_) (fun i hi hl => ?_) (fun p hp => ?_) hs2 hok' h4
        · have hne : i ≠ j := fun he => by rw [he] at hi; exact absurd hi (hnd.not_mem_erase)
          have := List.mem_of_mem_erase hi
          exact ⟨this, by rw [getD_set_ne true (Ne.symm hne)]; exact hr1 i this⟩
        · obtain ⟨h4, h5⟩ := hset i hl
          exact (List.mem_erase_of_ne h4).2 hi
        · cases hd2 : o.dst with
          | none => rw [hd2] at hp; cases hp
          | some t =>
            rw [hd2] at hp
            rcases List.mem_cons.1 hp with rfl | hp
            · exact ⟨j, hjs, o, ho, hd2⟩
            · cases hp
      · obtain ⟨_, _, _, he, _⟩ := hx; exact absurd he hn
    · -- one that only reads
      rw [if_neg (fun h => hjs (any_beq.1 h))] at h1
      obtain ⟨Hx, hHx⟩ := hok.1
      obtain ⟨hdn, h1⟩ := h1
      have hwant : ∀ b, Want pre o e b → Want ops o e b := fun b hw => (by
        unfold Want at *
        cases hg : o.guard with
        | none => simpa only [hg] using hw
        | some q =>
          obtain ⟨g, want⟩ := q
          simp only [hg] at hw ⊢
          obtain ⟨t, c, ht2, hc2, hb⟩ := hw
          refine ⟨t, c, ?_, hc2, hb⟩
          obtain ⟨og, hog, hd2⟩ := Option.bind_eq_some_iff.1 ht2
          have hgm : g < m := by rw [← hpz]; exact (Array.getElem?_eq_some_iff.1 hog).1
          rw [hpre g hgm] at hog
          obtain ⟨o2, ho2, he2⟩ := Option.map_eq_some_iff.1 hog
          by_cases hs2 : sp.any (Nat.beq g) = true
          · rw [if_pos hs2] at he2; subst he2; simp [mute] at hd2
          · rw [if_neg hs2] at he2; subst he2; rw [ho2]; exact hd2)
      have hnext : ∀ (od : Option D) (a' : Act) (w' : World), Sat K (e.putO o.dst od) H a' w' → anyF K.P .any pre (hpF E H0 Hs) K.n Qp fuel (L.setIfInBounds j true) (e.putO o.dst od) → wpAnyIn (fen K.r) 0 K.P .any ops (liftQ K Qf) (fuel + f) ((lst L (ops.size - m)).setIfInBounds j true) a' w' := fun od a' w' hs' h' => by
        rw [lst_set hjL]
        refine ih _ H _ a' w' (by simpa using hL) hdown hcnt (fun i hi => ?_) hs' hok h'
        have := hr1 i hi
        have hne : j ≠ i := fun he => hjs (he ▸ hi)
        rw [getD_set_ne true hne]; exact this
      rcases h1 with ⟨hw, d, hp, hk3⟩ | ⟨hw, hk3⟩
      · rw [if_pos ((hwant _ hw).wanted hsat)]
        have hp2 : Pure K.P H o e d := by
          unfold hpF at hp
          cases hE : early E o with
          | true => rw [hE] at hp; exact Pure.frame hHx hp
          | false => rw [hE] at hp; exact Pure.frame hHx (Pure.frame h0s hp)
        exact hp2.wp hsat hdn fun a' w' hs' => hnext _ _ _ hs' hk3
      · rw [if_neg (by rw [(hwant _ hw).wanted hsat]; simp)]
        exact ⟨fun _ _ => trivial, hnext _ _ _ (hsat.put (Kept.refl _ _) hdn (fun d hd => by cases hd; exact .v _)) hk3⟩
end
section
variable {K : Ctx} {Q : Exit → Env → Hp → Prop} {env : Env} {H Hs H0 Hy : Hp}
theorem lexF_ex {P : Program} {ops : Array Oper} {H : Oper → Hp} {n : Nat} {Q : Env → Prop} : ∀ (l : List Oper) (env : Env), lexF P ops H n Q l env → ∃ e0, Q e0 ∧ lexF P ops H n (fun e => e = e0) l env
  | [], env, h => ⟨env, h, rfl⟩
  | o :: l, env, h => by
    obtain ⟨hd, h⟩ := h
    rcases h with ⟨hw, d, hp, hk⟩ | ⟨hw, hk⟩
    · obtain ⟨e0, h1, h2⟩ := lexF_ex l _ hk
      exact ⟨e0, h1, hd, .inl ⟨hw, d, hp, h2⟩⟩
    · obtain ⟨e0, h1, h2⟩ := lexF_ex l _ hk
      exact ⟨e0, h1, hd, .inr ⟨hw, h2⟩⟩

def sqB (ops : Array Oper) (pl : List Oper) (m p : Nat) (sp : List Nat) : Bool :=
  (pl.take p).all (fun o => o.dst.isSome) && (pl.drop p).all (fun o => !(early ((pl.take p).filterMap (·.dst)) o)) &&
  (List.range m).all (fun i => sp.any (Nat.beq i) || match ops[i]? with
    | none => true
    | some o => !(early ((pl.take p).filterMap (·.dst)) o) || sp.all fun s => anc ops m s i)
theorem lexF_of_lexA {P : Program} {ops : Array Oper} {Hf : Oper → Hp} {n : Nat} {Q : Env → Prop} : ∀ (l l2 : List Oper) (env : Env), (∀ o ∈ l, Hf o = H0) → lexA P ops H0 n (fun e => lexF P ops Hf n Q l2 e) l env → lexF P ops Hf n Q (l ++ l2) env
  | [], _, _, _, h => h
  | o :: l, l2, env, hl, h => by
    refine ⟨h.1, h.2.imp (fun ⟨hw, d, hp, hk⟩ => ⟨hw, d, ?_, lexF_of_lexA l l2 _ (fun o ho => hl o (by simp [ho])) hk⟩) (fun ⟨hw, hk⟩ => ⟨hw, lexF_of_lexA l l2 _ (fun o ho => hl o (by simp [ho])) hk⟩)⟩
    rw [hl o (by simp)]; exact hp
theorem lexA_mono {P : Program} {ops : Array Oper} {H : Hp} {n : Nat} {Q Q' : Env → Prop} (hq : ∀ e, Q e → Q' e) : ∀ (l : List Oper) (env : Env), lexA P ops H n Q l env → lexA P ops H n Q' l env
  | [], _, h => hq _ h
  | o :: l, env, h => stepA_mono (fun e he => lexA_mono hq l e he) h
/-- **A region that draws its order**, as TC.drawSp; its first p operations read more (H0): each of them comes before every special one. -/
theorem TC.drawSq {id : Nat} {l : List Oper} (m p k : Nat) (sp : List Nat) (H0 Hs : Hp) (hm : K.P.follows .mixedOrders = true) (hnd : sp.Nodup) (hk : sp.length = k + 1) (hB : Region.lexFrom .any (muted sp 0 (l.take m)).toArray (l.take m).length 0 (Array.replicate (l.take m).length false) = true)
    (ht : tailB .any l.toArray m = true) (hs : spB l.toArray m sp = true) (he : sqB l.toArray (muted sp 0 (l.take m)) m p sp = true) (h0s : SplitR H0 Hs Hy)
    (h : TD K (muted sp 0 (l.take m)).toArray ((muted sp 0 (l.take m)).take p) (fun _ e _ => TD K (muted sp 0 (l.take m)).toArray ((muted sp 0 (l.take m)).drop p) (fun _ e0 _ => SqTop K l.toArray H0 Hs (fun e => e = e0) Q (l.drop m) k sp H) e Hs) env H0) : TC K (.region id l.toArray true) Q env H := fun a w hsat => by
  unfold sqB at he
  rw [Bool.and_eq_true, Bool.and_eq_true] at he
  obtain ⟨⟨he1, he2⟩, he3⟩ := he
  have hE1 : ∀ o ∈ (muted sp 0 (l.take m)).take p, hpF (((muted sp 0 (l.take m)).take p).filterMap (·.dst)) H0 Hs o = H0 := fun o ho => by
    obtain ⟨t, ht2⟩ := Option.isSome_iff_exists.1 (List.all_eq_true.1 he1 o ho)
    unfold hpF early
    simp only [ht2]
    rw [any_beq.2 (List.mem_filterMap.2 ⟨o, ho, ht2⟩)]; rfl
  have hE2 : ∀ o ∈ (muted sp 0 (l.take m)).drop p, hpF (((muted sp 0 (l.take m)).take p).filterMap (·.dst)) H0 Hs o = Hs := fun o ho => by
    have := List.all_eq_true.1 he2 o ho
    unfold hpF
    rw [Bool.not_eq_true'] at this
    rw [this]; rfl
  have h' : lexF K.P (muted sp 0 (l.take m)).toArray (hpF (((muted sp 0 (l.take m)).take p).filterMap (·.dst)) H0 Hs) K.n (fun e0 => SqTop K l.toArray H0 Hs (fun e => e = e0) Q (l.drop m) k sp H) (muted sp 0 (l.take m)) env := by
    have := lexF_of_lexA (Hf := hpF (((muted sp 0 (l.take m)).take p).filterMap (·.dst)) H0 Hs) ((muted sp 0 (l.take m)).take p) ((muted sp 0 (l.take m)).drop p) env hE1
      (lexA_mono (fun e hx => by
        have := lexF_of_lexA (H0 := Hs) (Hf := hpF (((muted sp 0 (l.take m)).take p).filterMap (·.dst)) H0 Hs) ((muted sp 0 (l.take m)).drop p) [] e hE2 hx
        rwa [List.append_nil] at this) _ _ h)
    rwa [List.take_append_drop] at this
  obtain ⟨e0, hok, h⟩ := lexF_ex _ _ h'
  refine wpIn_region_any hm ?_
  have hT := tailP ht
  have hS := spP hs
  have hml : m < l.length := by have := hT.lt; simpa using this
  have htk : (l.take m).length = m := by rw [List.length_take]; omega
  have hmz : (muted sp 0 (l.take m)).length = m := by rw [muted_len, htk]
  rw [htk] at hB
  have hpre : ∀ i, i < m → (muted sp 0 (l.take m)).toArray[i]? = (l.toArray[i]?).map fun o => if sp.any (Nat.beq i) then mute o else o := fun i hi => by
    simp [muted_get, List.getElem?_take, hi]
  have hback : ∀ (j : Nat) (o : Oper), (muted sp 0 (l.take m)).toArray[j]? = some o → ∀ e ∈ o.after, Region.binds .any e = true → e.on < j := fun j o ho e he hb => by
    have hj : j < m := by have := (Array.getElem?_eq_some_iff.1 ho).1; simpa [hmz] using this
    rw [hpre j hj] at ho
    obtain ⟨o2, ho2, he2⟩ := Option.map_eq_some_iff.1 ho
    refine hT.back j o2 ho2 e ?_ hb
    by_cases hs2 : sp.any (Nat.beq j) = true
    · rw [if_pos hs2] at he2; subst he2; exact he
    · rw [if_neg hs2] at he2; subst he2; exact he
  have hlex := anyF_lex (P := K.P) (H := hpF (((muted sp 0 (l.take m)).take p).filterMap (·.dst)) H0 Hs) (n := K.n) (md := .any) (ops := (muted sp 0 (l.take m)).toArray) (Q := fun e => e = e0) (muted sp 0 (l.take m)) 0 (Array.replicate m false) env (by simp) (by rw [hmz]; exact hB) h
  rw [hmz] at hlex
  have := wpAny_sq (K := K) (Qf := Q) (tl := l.drop m) (pre := (muted sp 0 (l.take m)).toArray) hT hS (by simpa using hmz) hpre hback hk hnd h0s (fun i hi hns o ho hE s hs2 => by
      have h1 := List.all_eq_true.1 he3 i (List.mem_range.2 hi)
      rw [Bool.or_eq_true] at h1
      rcases h1 with h1 | h1
      · exact absurd (any_beq.1 h1) hns
      simp only [ho] at h1
      rw [hE] at h1
      simpa using List.all_eq_true.1 (by simpa using h1) s hs2) (l.length - m) (by simp) (fun i => by simp [List.getElem?_drop])
    m (Array.replicate m false) H env a _ (by simp) (fun j o ho hl => by
        simp only [Array.getD_eq_getD_getElem?, Array.getElem?_replicate] at hl
        split at hl <;> cases hl) (by simp) (fun i hi => by simp [Array.getD_eq_getD_getElem?, Array.getElem?_replicate, hS.lt i hi]) hsat.drew hok hlex
  have e1 : l.toArray.size = m + (l.length - m) := by simp; omega
  rw [e1]
  simpa [lst, Array.replicate_append_replicate] using this
end
end Go.Ob
