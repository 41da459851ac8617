import Derived.Test.YtcmkgijekibdaaaS24
set_option linter.unusedVariables false
set_option linter.unusedSimpArgs false
namespace Go.Ob
open Go.Proofs
/-! ### valid lists by their members -/
structure OneOk (s : Sty) : Prop where
  lo : 1 ≤ s.id
  hi : s.id ≤ 1073741824
  kind : s.kind = 1 ∨ s.kind = 2
  name : NameP s.name
  no20 : lookP s.props 20 = none
  no1 : lookP s.props 1 = none
  inc : Inc (keysP s.props)
  props : ∀ p ∈ s.props, fitsP (if s.kind = 1 then 2 else 1) p.1 = true ∧ checkV p.1 p.2 = 0
structure GoodM (l : List Sty) : Prop where
  len : l.length ≤ 128
  inc : l.Pairwise (fun a b => a.id < b.id)
  new : l.Pairwise (fun a b => ¬ (a.kind = b.kind ∧ a.name = b.name))
  one : ∀ s ∈ l, OneOk s
  base : ∀ s ∈ l, s.base = 0 ∨ ∃ b ∈ l, b.id = s.base ∧ b.kind = s.kind
  next : ∀ s ∈ l, s.next = 0 ∨ (s.kind = 1 ∧ ∃ n ∈ l, n.id = s.next ∧ n.kind = 1)
  rank : ∃ r : Int → Nat, ∀ s ∈ l, s.base ≠ 0 → r s.base < r s.id
theorem yAt_get (l : List Sty) (i : Nat) (h : i < l.length) : yAt l i = l[i] := by simp [yAt, h]
theorem incS_iff (l : List Sty) : IncS l ↔ l.Pairwise (fun a b => a.id < b.id) := by
  rw [List.pairwise_iff_getElem]
  constructor
  · intro h i j hi hj hij
    have := h i j hij hj
    rwa [yAt_get l i hi, yAt_get l j hj] at this
  · intro h i j hij hj
    rw [yAt_get l i (by omega), yAt_get l j hj]
    exact h i j (by omega) hj hij
theorem IncS.mem {l : List Sty} (h : IncS l) {s : Sty} (hs : s ∈ l) : 0 ≤ findS l s.id ∧ yF l s.id = s := by
  obtain ⟨i, hi, rfl⟩ := mem_yAt hs
  have := h.find hi
  exact ⟨by omega, by unfold yF; rw [this, Int.toNat_natCast]⟩
theorem IncS.uniq {l : List Sty} (h : IncS l) {s t : Sty} (hs : s ∈ l) (ht : t ∈ l) (he : s.id = t.id) : s = t := by
  rw [← (h.mem hs).2, ← (h.mem ht).2, he]
theorem IncS.isP {l : List Sty} (h : IncS l) (k x : Int) : isP l k x ↔ ∃ b ∈ l, b.id = x ∧ b.kind = k := by
  constructor
  · rintro ⟨h1, h2⟩
    exact ⟨yF l x, yF_mem h1, yF_id h1, h2⟩
  · rintro ⟨b, hb, rfl, rfl⟩
    obtain ⟨h1, h2⟩ := h.mem hb
    refine ⟨h1, ?_⟩
    show (yF l b.id).kind = b.kind
    rw [h2]
theorem sq_shift (l : List Sty) (x : Int) : ∀ j, sq l x (j + 1) = sq l (yF l x).base j
  | 0 => rfl
  | j + 1 => by
    have := sq_shift l x j
    show (yAt l (findS l (sq l x (j + 1))).toNat).base = (yAt l (findS l (sq l (yF l x).base j)).toNat).base
    rw [this]
theorem Good.step {l : List Sty} (h : Good l) {s : Sty} (hs : s ∈ l) : chN l s.id = chN l s.base + 1 := by
  obtain ⟨h1, h2⟩ := h.inc.mem hs
  obtain ⟨hc, hn⟩ := h.chain (.inr h1)
  obtain ⟨i, hi, rfl⟩ := mem_yAt hs
  have hlo := (h.own i hi).lo
  obtain ⟨m, hm⟩ : ∃ m, chN l (yAt l i).id = m + 1 := by
    cases hz : chN l (yAt l i).id with
    | zero => rw [hz] at hc; have := hc.off; rw [sq] at this; omega
    | succ m => exact ⟨m, rfl⟩
  rw [hm] at hc hn
  have hb : ChOk l (yAt l i).base m := ⟨fun k hk => by
    have := hc.on (k + 1) (by omega)
    rwa [sq_shift, h2] at this, by have := hc.off; rwa [sq_shift, h2] at this⟩
  rw [hm, chN_eq hb (by omega)]
theorem fiN_none (p : Sty → Bool) (l : List Sty) (i : Nat) (h : ∀ s ∈ l, p s = false) : ¬ 0 ≤ fiN p l i := by
  intro h0
  obtain ⟨j, h1, _, h3, _⟩ := fiN_pos p l i h0
  rw [h _ (yAt_mem h1)] at h3; cases h3
theorem good_iff {l : List Sty} : Good l ↔ GoodM l := by
  constructor
  · intro h
    have hi := h.inc
    have key : ∀ s ∈ l, OneOk s := fun s hs => by
      obtain ⟨i, hil, rfl⟩ := mem_yAt hs
      have o := h.own i hil
      obtain ⟨h1, h2⟩ := (checkP_iff (by split <;> omega) (by split <;> omega) _).1 o.props
      have h20 := o.no20
      have h01 := o.no1
      rw [hasP_look] at h20 h01
      exact ⟨o.lo, o.hi, o.kind, o.name, by simpa using h20, by simpa using h01, h1, h2⟩
    refine ⟨h.len, (incS_iff l).1 hi, ?_, key, fun s hs => ?_, fun s hs => ?_, ⟨fun x => chN l x, fun s hs hb => by (try dsimp only); rw [h.step hs]; omega⟩⟩
    · rw [List.pairwise_iff_getElem]
      intro i j hil hjl hij he
      have := (h.own j hjl).new
      have hmem : l[i] ∈ l.take j := by
        rw [List.mem_iff_getElem]
        exact ⟨i, by rw [List.length_take]; omega, by simp⟩
      obtain ⟨k, hk, hke⟩ := mem_yAt hmem
      have hno := fiN_no _ (l.take j) 0 this k hk
      rw [hke] at hno
      rw [yAt_get l j hjl] at hno
      simp [he.1, he.2] at hno
    · obtain ⟨i, hil, rfl⟩ := mem_yAt hs
      rcases h.links i hil with hb | hb
      · exact .inl hb
      · exact .inr ((hi.isP _ _).1 hb)
    · obtain ⟨i, hil, rfl⟩ := mem_yAt hs
      have hb := h.link i hil
      have hk := (h.own i hil).kind
      unfold badP at hb
      by_cases hz : (yAt l i).next = 0
      · exact .inl hz
      · have h2 : ¬ ((yAt l i).kind = 2 ∨ ¬ isP l 1 (yAt l i).next) := fun e => hb (.inr ⟨hz, e⟩)
        exact .inr ⟨by omega, (hi.isP _ _).1 (Classical.byContradiction fun e => h2 (.inr e))⟩
  · intro h
    have hi := (incS_iff l).2 h.inc
    have hlink : ∀ j, j < l.length → ¬ badP l j := fun j hj hb => by
      have hm := yAt_mem hj
      rcases hb with ⟨h1, h2⟩ | ⟨h1, h2⟩
      · rcases h.base _ hm with h3 | h3
        · exact h1 h3
        · exact h2 ((hi.isP _ _).2 h3)
      · rcases h.next _ hm with h3 | ⟨h3, h4⟩
        · exact h1 h3
        · rcases h2 with h2 | h2
          · omega
          · exact h2 ((hi.isP _ _).2 h4)
    refine ⟨h.len, fun j hj => ?_, hlink, fun j hj hc => ?_⟩
    · have o := h.one _ (yAt_mem hj)
      refine ⟨o.lo, o.hi, fun h0 => hi (j - 1) j (by omega) hj, o.kind, o.name, ?_, by rw [hasP_look, o.no20]; rfl, by rw [hasP_look, o.no1]; rfl, (checkP_iff (by split <;> omega) (by split <;> omega) _).2 ⟨o.inc, o.props⟩⟩
      refine fiN_none _ _ _ fun s hs => ?_
      obtain ⟨k, hk, rfl⟩ := List.getElem_of_mem hs
      rw [List.length_take] at hk
      have := List.pairwise_iff_getElem.1 h.new k j (by omega) hj (by omega)
      rw [yAt_get l j hj]
      simp only [List.getElem_take, decide_eq_false_iff_not]
      exact this
    · obtain ⟨r, hr⟩ := h.rank
      have hk := bad_link hlink
      have hf := (hi.mem (yAt_mem hj)).1
      have hn := sq_ever hk hf hc
      have hfs : ∀ k, 0 ≤ findS l (sq l (yAt l j).id k) := fun k => sq_found hk (.inr hf) k (hn k) (fun j _ => hn j)
      have step : ∀ k, r (sq l (yAt l j).id k) + k ≤ r (sq l (yAt l j).id 0) := by
        intro k
        induction k with
        | zero => exact Nat.le_refl _
        | succ k ih =>
          have h1 := hr (yF l (sq l (yAt l j).id k)) (yF_mem (hfs k)) (hn (k + 1))
          rw [yF_id (hfs k)] at h1
          have e : sq l (yAt l j).id (k + 1) = (yF l (sq l (yAt l j).id k)).base := rfl
          rw [e]; omega
      have := step (r (sq l (yAt l j).id 0) + 1)
      omega
/-! ### the value of a key along a chain -/
theorem fstV_shift (f : Nat → Option Int) : ∀ (c a : Nat), fstV f (a + 1) c = fstV (fun j => f (j + 1)) a c
  | 0, _ => rfl
  | c + 1, a => by rw [fstV, fstV, fstV_shift f c (a + 1)]
theorem eff_zero (l : List Sty) : effP l 0 = [] := by unfold effP; rw [chN_eq (sq_zero l) (Nat.zero_le _)]; rfl
theorem Good.base0 {l : List Sty} (h : Good l) {s : Sty} (hs : s ∈ l) : s.base = 0 ∨ 0 ≤ findS l s.base := by
  rcases (good_iff.1 h).base s hs with hb | ⟨b, hb, he, _⟩
  · exact .inl hb
  · right; rw [← he]; exact (h.inc.mem hb).1
theorem eff_look {l : List Sty} (h : Good l) {s : Sty} (hs : s ∈ l) (x : Int) : lookP (effP l s.id) x = (lookP s.props x).or (lookP (effP l s.base) x) := by
  obtain ⟨h1, h2⟩ := h.inc.mem hs
  have e1 := (efQ_spec (h.efQ (.inr h1)) _ (Nat.le_refl _)).2 x
  have e2 := (efQ_spec (h.efQ (h.base0 hs)) _ (Nat.le_refl _)).2 x
  unfold effP
  rw [e1, e2, h.step hs, fstV, fstV_shift]
  have e3 : (fun j => lookP (yF l (sq l s.id (j + 1))).props x) = fun j => lookP (yF l (sq l s.base j)).props x := by
    funext j; rw [sq_shift, h2]
  rw [e3]
  show (lookP (yF l s.id).props x).or _ = _
  rw [h2]
/-! ### a list without one of its styles -/
theorem fixS_props (g : Sty) (id : Int) (s : Sty) : (fixS g id s).props = if s.base = id then mergeP g.props s.props else s.props := rfl
theorem rmS_mem {l : List Sty} {id : Int} {t : Sty} : t ∈ rmS l id ↔ ∃ s ∈ l, s.id ≠ id ∧ fixS (yF l id) id s = t := by
  unfold rmS rmF
  rw [List.mem_map]
  constructor
  · rintro ⟨s, hs, rfl⟩
    rw [List.mem_filter] at hs
    exact ⟨s, hs.1, by simpa using hs.2, rfl⟩
  · rintro ⟨s, h1, h2, h3⟩
    exact ⟨s, List.mem_filter.2 ⟨h1, by simpa using h2⟩, h3⟩
theorem rmS_good {l : List Sty} (hg : Good l) {id : Int} (hf : 0 ≤ findS l id) : Good (rmS l id) := by
  have h := good_iff.1 hg
  have hi := hg.inc
  have hgm := yF_mem hf
  have hgi := yF_id hf
  have hkind : ∀ s ∈ l, s.base = id → (yF l id).kind = s.kind := fun s hs hb => by
    have hid : id ≠ 0 := by have := (h.one _ hgm).lo; omega
    rcases h.base s hs with h0 | ⟨b, hbm, h1, h2⟩
    · omega
    · rw [← hi.uniq hbm hgm (by rw [h1, hb, hgi])]; exact h2
  obtain ⟨r, hr⟩ := h.rank
  have hid : id ≠ 0 := by have := (h.one _ hgm).lo; omega
  refine good_iff.2 ⟨?_, ?_, ?_, ?_, ?_, ?_, ⟨r, ?_⟩⟩
  · have := rmF_len l id
    have := h.len
    unfold rmS; rw [List.length_map]; omega
  · unfold rmS rmF
    rw [List.pairwise_map]
    exact h.inc.filter _
  · unfold rmS rmF
    rw [List.pairwise_map]
    exact h.new.filter _
  · intro t ht
    obtain ⟨s, hs, hne, rfl⟩ := rmS_mem.1 ht
    have o := h.one s hs
    have og := h.one _ hgm
    by_cases hb : s.base = id
    · have hk := hkind s hs hb
      have hm := mergeP_spec _ _ og.inc o.inc
      have e : (fixS (yF l id) id s).props = mergeP (yF l id).props s.props := by rw [fixS_props, if_pos hb]
      refine ⟨o.lo, o.hi, o.kind, o.name, by rw [e, hm.2, o.no20, og.no20]; rfl, by rw [e, hm.2, o.no1, og.no1]; rfl, by rw [e]; exact hm.1, fun p hp => ?_⟩
      rw [e] at hp
      rcases mergeP_mem og.inc o.inc hp with hp | hp
      · have := og.props p hp
        rw [hk] at this; exact this
      · exact o.props p hp
    · have e : (fixS (yF l id) id s).props = s.props := by rw [fixS_props, if_neg hb]
      exact ⟨o.lo, o.hi, o.kind, o.name, by rw [e]; exact o.no20, by rw [e]; exact o.no1, by rw [e]; exact o.inc, by rw [e]; exact o.props⟩
  · intro t ht
    obtain ⟨s, hs, hne, rfl⟩ := rmS_mem.1 ht
    have lift : ∀ b ∈ l, b.id ≠ id → ∃ c ∈ rmS l id, c.id = b.id ∧ c.kind = b.kind := fun b hb hn => ⟨_, rmS_mem.2 ⟨b, hb, hn, rfl⟩, rfl, rfl⟩
    by_cases hb : s.base = id
    · have e : (fixS (yF l id) id s).base = (yF l id).base := by unfold fixS; rw [if_pos hb]
      rw [e]
      rcases h.base _ hgm with h0 | ⟨b, hbm, h1, h2⟩
      · exact .inl h0
      · right
        have hz : (yF l id).base ≠ 0 := by have := (h.one b hbm).lo; omega
        have hlt := hr _ hgm hz
        obtain ⟨c, c1, c2, c3⟩ := lift b hbm (fun e => by rw [← h1, e, hgi] at hlt; omega)
        exact ⟨c, c1, by rw [c2, h1], by rw [c3, h2]; exact hkind s hs hb⟩
    · have e : (fixS (yF l id) id s).base = s.base := by unfold fixS; rw [if_neg hb]
      rw [e]
      rcases h.base s hs with h0 | ⟨b, hbm, h1, h2⟩
      · exact .inl h0
      · obtain ⟨c, c1, c2, c3⟩ := lift b hbm (fun e => hb (by rw [← h1, e]))
        exact .inr ⟨c, c1, by rw [c2, h1], by rw [c3, h2]; rfl⟩
  · intro t ht
    obtain ⟨s, hs, hne, rfl⟩ := rmS_mem.1 ht
    by_cases hb : s.next = id
    · left; unfold fixS; rw [if_pos hb]
    · have e : (fixS (yF l id) id s).next = s.next := by unfold fixS; rw [if_neg hb]
      rw [e]
      rcases h.next s hs with h0 | ⟨hk, n, hn, h1, h2⟩
      · exact .inl h0
      · exact .inr ⟨hk, _, rmS_mem.2 ⟨n, hn, fun e => hb (by rw [← h1, e]), rfl⟩, h1, h2⟩
  · intro t ht
    obtain ⟨s, hs, hne, rfl⟩ := rmS_mem.1 ht
    by_cases hb : s.base = id
    · have e : (fixS (yF l id) id s).base = (yF l id).base := by unfold fixS; rw [if_pos hb]
      rw [e]
      intro hz
      have h1 := hr _ hgm hz
      have h2 := hr s hs (by rw [hb]; exact hid)
      rw [hgi] at h1
      rw [hb] at h2
      show r (yF l id).base < r s.id
      omega
    · have e : (fixS (yF l id) id s).base = s.base := by unfold fixS; rw [if_neg hb]
      rw [e]; exact hr s hs
theorem rmS_eff {l : List Sty} (hg : Good l) {id : Int} (hf : 0 ≤ findS l id) {s : Sty} (hs : s ∈ l) (hne : s.id ≠ id) : effP (rmS l id) s.id = effP l s.id := by
  have h := good_iff.1 hg
  have hm := rmS_good hg hf
  have hgm := yF_mem hf
  have hgi := yF_id hf
  obtain ⟨r, hr⟩ := h.rank
  have hid : id ≠ 0 := by have := (h.one _ hgm).lo; omega
  have key : ∀ (n : Nat) (y x : Int), r y < n → (y = 0 ∨ ∃ s ∈ l, s.id = y ∧ s.id ≠ id) → lookP (effP (rmS l id) y) x = lookP (effP l y) x := by
    intro n
    induction n with
    | zero => intro y x hlt; omega
    | succ n ih =>
      intro y x hlt hy
      rcases hy with rfl | ⟨s, hs, rfl, hne⟩
      · rw [eff_zero, eff_zero]
      · have hsm : fixS (yF l id) id s ∈ rmS l id := rmS_mem.2 ⟨s, hs, hne, rfl⟩
        have e1 := eff_look hm hsm x
        have e2 := eff_look hg hs x
        rw [e2]
        refine Eq.trans e1 ?_
        by_cases hb : s.base = id
        · have eb : (fixS (yF l id) id s).base = (yF l id).base := by unfold fixS; rw [if_pos hb]
          have ep : (fixS (yF l id) id s).props = mergeP (yF l id).props s.props := by rw [fixS_props, if_pos hb]
          have h2 := hr s hs (by rw [hb]; exact hid)
          have e3 := eff_look hg hgm x
          rw [hgi] at e3
          have hmg := mergeP_spec _ _ (h.one _ hgm).inc (h.one s hs).inc
          have hlo : lookP (effP (rmS l id) (yF l id).base) x = lookP (effP l (yF l id).base) x := by
            rcases h.base _ hgm with h0 | ⟨b, hbm, h3, h4⟩
            · rw [h0, eff_zero, eff_zero]
            · have hz : (yF l id).base ≠ 0 := by have := (h.one b hbm).lo; omega
              have h1 := hr _ hgm hz
              rw [hgi] at h1
              rw [hb] at h2
              exact ih _ _ (by omega) (.inr ⟨b, hbm, h3, fun e => by rw [← h3, e] at h1; omega⟩)
          rw [eb, ep, hmg.2, hlo, hb, e3, Option.or_assoc]
        · have eb : (fixS (yF l id) id s).base = s.base := by unfold fixS; rw [if_neg hb]
          have ep : (fixS (yF l id) id s).props = s.props := by rw [fixS_props, if_neg hb]
          rw [eb, ep]
          congr 1
          rcases h.base s hs with h0 | ⟨b, hbm, h3, h4⟩
          · rw [h0, eff_zero, eff_zero]
          · have hz : s.base ≠ 0 := by have := (h.one b hbm).lo; omega
            have h2 := hr s hs hz
            exact ih _ _ (by omega) (.inr ⟨b, hbm, h3, fun e => hb (by rw [← h3, e])⟩)
  have hsm : fixS (yF l id) id s ∈ rmS l id := rmS_mem.2 ⟨s, hs, hne, rfl⟩
  have g1 := hm.effP (.inr (hm.inc.mem hsm).1)
  have g2 := hg.effP (.inr (hg.inc.mem hs).1)
  exact lookP_ext _ _ g1.1 g2.1 fun x => key _ _ x (Nat.lt_succ_self _) (.inr ⟨s, hs, rfl, hne⟩)
theorem Good.names {l : List Sty} (h : Good l) : ∀ i, i < l.length → (yAt l i).name.size ≤ 1000000000 := fun i hi => by have := (h.own i hi).name.1.2.1; omega
theorem Good.plens {l : List Sty} (h : Good l) : ∀ i, i < l.length → (yAt l i).props.length ≤ 1000000 := fun i hi => by have := (h.props hi).len; omega
theorem effV_ok {l : List Sty} (hg : Good l) {id : Int} (hf : 0 ≤ findS l id) : effV l id = effP l id := by unfold effV; rw [if_pos (foundE_is hg hf)]
end Go.Ob
