/- A meaning weakened: what holds of a value under one datum holds under another; reading a field of a struct value. -/
import Derived.Test.YtlhjcleejolbiaaObN
set_option linter.unusedVariables false
set_option linter.unusedSimpArgs false
set_option linter.unusedSectionVars false
namespace Go.Ob
open Go.RowKit

/-- Whatever means d means d' too. -/
def Le (d d' : D) : Prop := ∀ (w : World) (o : Nat → Prop) (u : Value), Rep w o d u → Rep w o d' u
theorem Le.refl (d : D) : Le d d := fun _ _ _ h => h
theorem Le.nil (es : Nat) : Le (.v (.slice none 0 0)) (.sl es []) := fun w o u h => by
  obtain rfl := h.of_v
  exact .nil es
inductive LeL : List D → List D → Prop where
  | nil : LeL [] []
  | cons {d d' : D} {ds ds' : List D} : Le d d' → LeL ds ds' → LeL (d :: ds) (d' :: ds')
theorem LeL.refl : ∀ (ds : List D), LeL ds ds
  | [] => .nil
  | d :: ds => .cons (.refl d) (LeL.refl ds)
theorem LeL.get {ds ds' : List D} (h : LeL ds ds') : ds.length = ds'.length ∧ ∀ (j : Nat) (d' : D), ds'[j]? = some d' → ∃ d, ds[j]? = some d ∧ Le d d' := by
  induction h with
  | nil => exact ⟨rfl, fun j d h => by simp at h⟩
  | cons h1 _ ih => exact ⟨by simp [ih.1], fun j d hd => by
      match j with
      | 0 => simp at hd; subst hd; exact ⟨_, rfl, h1⟩
      | j + 1 => simpa using ih.2 j d (by simpa using hd)⟩
theorem Le.agg {ds ds' : List D} (h : LeL ds ds') : Le (.agg ds) (.agg ds') := fun w o u hr => by
  cases hr with
  | agg _ vs hs h1 h2 => exact .agg ds' vs (by rw [hs, h.get.1]) h1 (fun j d u hd hu => let ⟨d0, h0, hl⟩ := h.get.2 j d hd; hl _ _ _ (h2 j d0 u h0 hu))
theorem Le.tup {ds ds' : List D} (h : LeL ds ds') : Le (.tup ds) (.tup ds') := fun w o u hr => by
  cases hr with
  | tup _ vs hs h2 => exact .tup ds' vs (by rw [hs, h.get.1]) (fun j d u hd hu => let ⟨d0, h0, hl⟩ := h.get.2 j d hd; hl _ _ _ (h2 j d0 u h0 hu))
inductive LeLL : List (List D) → List (List D) → Prop where
  | nil : LeLL [] []
  | cons {d d' : List D} {ds ds' : List (List D)} : LeL d d' → LeLL ds ds' → LeLL (d :: ds) (d' :: ds')
theorem LeLL.refl : ∀ (ds : List (List D)), LeLL ds ds
  | [] => .nil
  | d :: ds => .cons (.refl d) (LeLL.refl ds)
theorem LeLL.get {ds ds' : List (List D)} (h : LeLL ds ds') : ds.length = ds'.length ∧ ∀ (j : Nat) (d' : List D), ds'[j]? = some d' → ∃ d, ds[j]? = some d ∧ LeL d d' := by
  induction h with
  | nil => exact ⟨rfl, fun j d h => by simp at h⟩
  | cons h1 _ ih => exact ⟨by simp [ih.1], fun j d hd => by
      match j with
      | 0 => simp at hd; subst hd; exact ⟨_, rfl, h1⟩
      | j + 1 => simpa using ih.2 j d (by simpa using hd)⟩
theorem Le.sl {es : Nat} {xs xs' : List (List D)} (h : LeLL xs xs') : Le (.sl es xs) (.sl es xs') := fun w o u hr => by
  have hl := h.get.1
  cases hr with
  | nil =>
    obtain rfl : xs' = [] := List.eq_nil_of_length_eq_zero (by simpa using hl.symm)
    exact .nil es
  | sl _ _ a c val hc he hb hcell hrep =>
    rw [hl]
    refine .sl es xs' a c val (by omega) (fun x hx => ?_) (fun hne => hb (fun h0 => hne (List.eq_nil_of_length_eq_zero (by rw [← hl, h0]; rfl)))) (fun i j x d hx hd => ?_) (fun i j x d hx hd => ?_)
    · obtain ⟨i, hi, rfl⟩ := List.mem_iff_getElem.1 hx
      obtain ⟨x0, h0, hle⟩ := h.get.2 i _ (List.getElem?_eq_getElem hi)
      rw [← hle.get.1]
      exact he x0 (List.mem_of_getElem? h0)
    · obtain ⟨x0, h0, hle⟩ := h.get.2 i x hx
      obtain ⟨d0, h1, _⟩ := hle.get.2 j d hd
      exact hcell i j x0 d0 h0 h1
    · obtain ⟨x0, h0, hle⟩ := h.get.2 i x hx
      obtain ⟨d0, h1, hd'⟩ := hle.get.2 j d hd
      exact hd' _ _ _ (hrep i j x0 d0 h0 h1)

section
variable {K : Ctx} {env : Env} {H : Hp} {Q : Exit → Env → Hp → Prop}
theorem Sat.le {a : Act} {w : World} (h : Sat K env H a w) {t : Nat} {d d' : D} (ht : env t = some d) (hl : Le d d') : Sat K (env.put t (some d')) H a w :=
  ⟨fun t' x hx => (by
      rcases Env.put_some hx with ⟨rfl, e⟩ | ⟨_, e⟩
      · obtain rfl := Option.some.inj e
        obtain ⟨u, hu, hr⟩ := h.tmps _ _ ht
        exact ⟨u, hu, hl _ _ _ hr⟩
      · exact h.tmps _ _ e), h.size, h.defers, h.heap, h.kept, h.fresh, h.foreign⟩
/-- A temporary's meaning weakened. -/
theorem TC.le {c : Code} {d d' : D} (t : Nat) (ht : env t = some d) (hl : Le d d') (h : TC K c Q (env.put t (some d')) H) : TC K c Q env H := TC.view (fun _ _ hs => hs.le ht hl) h
theorem TL.le {ops : Array Oper} {l : List Oper} {d d' : D} (t : Nat) (ht : env t = some d) (hl : Le d d') (h : TL K ops l Q (env.put t (some d')) H) : TL K ops l Q env H := fun a w hs => h a w (hs.le ht hl)
end
/-- A contract at weaker arguments, with a weaker result. -/
theorem Fun.le {P : Program} {f : FuncId} {ds ds' : List D} {r r' : D} (h : Fun P f ds r) (ha : LeL ds' ds) (hr : Le r r') : Fun P f ds' r' := by
  intro w F vs hl hrep hok hF
  refine (h w F vs (by rw [hl, ha.get.1]) (fun j d u hd hu => ?_) hok hF).mono ?_
  · obtain ⟨d0, h0, hle⟩ := ha.get.2 j d hd
    exact hle _ _ _ (hrep j d0 u h0 hu)
  · rintro e w' ⟨v, r0, H', rfl, ⟨rfl, rfl⟩, h1, h2, h3, h4⟩
    exact ⟨v, r', [], rfl, ⟨rfl, rfl⟩, hr _ _ _ h1, h2, h3, h4⟩

section
variable {P : Program} {H : Hp} {env : Env} {dst : Option Tmp} {ty : TypeId} {pos : String} {af : Array Edge} {gd : Option (Nat × Bool)}
theorem Rep.agg_get {w : World} {o : Nat → Prop} {ds : List D} {u : Value} (h : Rep w o (.agg ds) u) {i : Nat} {d : D} (hi : ds[i]? = some d) : ∃ vs v, u = .agg vs ∧ vs[i]? = some v ∧ v.oneCell' = true ∧ Rep w o d v := by
  cases h with
  | agg _ vs hs h1 hr =>
    have hlt : i < vs.size := by rw [hs]; exact (List.getElem?_eq_some_iff.1 hi).1
    exact ⟨vs, vs[i], rfl, by simp [hlt], h1 i _ (by simp [hlt]), hr i d _ hi (by simp [hlt])⟩

structure FieldV (P : Program) (t f o ft : Nat) : Prop where
  field : ∃ fs fd, P.underlying t = some (.struct fs) ∧ fs[f]? = some fd ∧ fd.offset = o ∧ fd.type = ft
theorem pure_field {x : Operand} {t f o ft : Nat} {cs : List D} {d : D} (hf : FieldV P t f o ft) (ht : OneT P ft) (hx : opD env x = some (.agg cs)) (hd : cs[o]? = some d) :
    Pure P H ⟨dst, .field t x f, ty, pos, af, gd⟩ env d := pure_of fun w _ ρ _ h => by
  obtain ⟨fs, fd, hu, hfd, rfl, rfl⟩ := hf.field
  obtain ⟨vs, v, e, hv, _, hr⟩ := (h x (by simp [Op.operands]) _ hx).agg_get hd
  exact ⟨v, by simp [execOp, Instr.field, run_underlying hu, hfd, e, asAgg, part, ht.one, hv], hr⟩
theorem Rep.agg_part {w : World} {o : Nat → Prop} {cs cs' ds : List D} {vs : Array Value} {off n : Nat} (h : Rep w o (.agg cs) (.agg vs)) (hd : DropR off cs cs') (ht : TakeR n cs' ds) : Rep w o (.agg ds) (.agg (vs.extract off (off + n))) := by
  cases h with
  | agg _ _ hs h1 hr =>
    have hl := ht.get.1
    have hg : ∀ (j : Nat) (d : D), ds[j]? = some d → cs[off + j]? = some d := fun j d hj => by rw [← hd.get]; exact ht.get.2 j d hj
    have hlen : ∀ j, j < ds.length → off + j < vs.size := fun j hj => by
      rw [hs]; exact (List.getElem?_eq_some_iff.1 (hg j ds[j] (List.getElem?_eq_getElem hj))).1
    have hsz : (vs.extract off (off + n)).size = ds.length := by
      rw [Array.size_extract, hl]
      rcases Nat.eq_zero_or_pos n with h | h
      · subst h; omega
      · have := hlen (n - 1) (by omega); omega
    have hget : ∀ (j : Nat) (u : Value), (vs.extract off (off + n))[j]? = some u → vs[off + j]? = some u := fun j u hu => by
      rw [Array.getElem?_extract] at hu
      split at hu
      · exact hu
      · cases hu
    refine .agg ds _ hsz (fun j u hu => h1 _ _ (hget j u hu)) (fun j d u hd' hu => hr _ _ _ (hg j d hd') (hget j u hu))
theorem pure_field_agg {x : Operand} {t f o ft n : Nat} {cs cs' ds : List D} (hf : FieldV P t f o ft) (ht : AggT P ft n) (hx : opD env x = some (.agg cs)) (hd : DropR o cs cs') (htk : TakeR n cs' ds) :
    Pure P H ⟨dst, .field t x f, ty, pos, af, gd⟩ env (.agg ds) := pure_of fun w _ ρ _ h => by
  obtain ⟨fs, fd, hu, hfd, rfl, rfl⟩ := hf.field
  have hr := h x (by simp [Op.operands]) _ hx
  obtain ⟨vs, e⟩ : ∃ vs, ρ x = .agg vs := by
    generalize ρ x = u at hr
    cases hr
    exact ⟨_, rfl⟩
  rw [e] at hr
  exact ⟨_, by simp [execOp, Instr.field, run_underlying hu, hfd, e, asAgg, part, ht.agg, ht.size], hr.agg_part hd htk⟩
end
end Go.Ob
