import Derived.Test.YtcmkgijekibdaaaS25
set_option linter.unusedVariables false
set_option linter.unusedSimpArgs false
namespace Go.Ob
open Go.Proofs
/-! ### the properties of a style with another base -/
theorem in_look8 {l : List (Int × Int)} (h : Inc (keysP l)) (key : Int) : inI (keysP l) key = (lookP l key).isSome := by
  have h0 := getP_lb l key 0 h
  have h1 := getP_lb l key 1 h
  rw [getP_look] at h0 h1
  cases hb : inI (keysP l) key with
  | false =>
    cases hl : lookP l key with
    | none => rfl
    | some v => rw [hb, hl] at h0 h1; simp only [Option.getD_some, Bool.false_eq_true, if_false] at h0 h1; omega
  | true =>
    cases hl : lookP l key with
    | some v => rfl
    | none => rw [hb, hl] at h0 h1; simp only [Option.getD_none, if_true] at h0 h1; omega
/-- what the style itself must set for a key: a its value so far, b that of the base -/
def rebO (a b : Option Int) (d : Int) : Option Int := match a with
  | some v => if b = some v then none else some v
  | none => match b with
    | some w => if w = d then none else some d
    | none => none
def rbA (e b : List (Int × Int)) (k : Int) : List (Int × Int) := match rebO (lookP e k) (lookP b k) (findK k).std with
  | some v => [(k, v)]
  | none => []
def rbTo (e b : List (Int × Int)) : Nat → List (Int × Int)
  | 0 => []
  | n + 1 => rbTo e b n ++ rbA e b (tK n)
def rbP (e b : List (Int × Int)) : List (Int × Int) := rbTo e b tableK.length
theorem rbA_len (e b : List (Int × Int)) (k : Int) : (rbA e b k).length ≤ 1 := by
  unfold rbA; split <;> simp
theorem rbTo_len (e b : List (Int × Int)) : ∀ n, (rbTo e b n).length ≤ n
  | 0 => Nat.le_refl _
  | n + 1 => by
    have := rbTo_len e b n
    have := rbA_len e b (tK n)
    rw [rbTo, List.length_append]; omega
theorem rbA_mem {e b : List (Int × Int)} {k : Int} {p : Int × Int} (h : p ∈ rbA e b k) : p.1 = k ∧ rebO (lookP e k) (lookP b k) (findK k).std = some p.2 := by
  unfold rbA at h
  split at h
  · rename_i v hv
    rw [List.mem_singleton.1 h]; exact ⟨rfl, hv⟩
  · cases h
theorem rbA_look (e b : List (Int × Int)) (k : Int) : lookP (rbA e b k) k = rebO (lookP e k) (lookP b k) (findK k).std := by
  unfold rbA
  split
  · rename_i v hv; rw [hv, lookP, if_pos rfl]
  · rename_i hv; rw [hv]; rfl
theorem rbTo_spec (e b : List (Int × Int)) : ∀ n, n ≤ tableK.length → Inc (keysP (rbTo e b n)) ∧ (∀ p ∈ rbTo e b n, ∃ i, i < n ∧ tK i = p.1) ∧ ∀ k, (∃ i, i < n ∧ tK i = k) → lookP (rbTo e b n) k = rebO (lookP e k) (lookP b k) (findK k).std
  | 0, _ => ⟨by simp [rbTo, Inc, keysP], by simp [rbTo], fun k ⟨i, h, _⟩ => by omega⟩
  | n + 1, hn => by
    obtain ⟨h1, h2, h3⟩ := rbTo_spec e b n (by omega)
    have hlt : ∀ p ∈ rbTo e b n, p.1 < tK n := fun p hp => by
      obtain ⟨i, hi, he⟩ := h2 p hp
      have := tK_inc hi (by omega); omega
    have hno : lookP (rbTo e b n) (tK n) = none := lookP_none _ _ fun p hp => by have := hlt p hp; omega
    rw [rbTo]
    refine ⟨?_, ?_, ?_⟩
    · refine Inc.append.2 ⟨h1, ?_, fun p hp q hq => ?_⟩
      · unfold rbA; split <;> simp [Inc, keysP]
      · rw [(rbA_mem hq).1]; exact hlt p hp
    · intro p hp
      rcases List.mem_append.1 hp with hp | hp
      · obtain ⟨i, hi, he⟩ := h2 p hp
        exact ⟨i, by omega, he⟩
      · exact ⟨n, by omega, (rbA_mem hp).1.symm⟩
    · rintro k ⟨i, hi, he⟩
      rw [lookP_append]
      rcases Nat.lt_or_ge i n with hlt2 | hge
      · rw [h3 k ⟨i, hlt2, he⟩]
        have hne : tK n ≠ k := by have := tK_inc hlt2 (by omega); omega
        have h4 : lookP (rbA e b (tK n)) k = none := lookP_none _ _ fun p hp hk => hne (by rw [← (rbA_mem hp).1, hk])
        rw [h4, Option.or_none]
      · have hin : i = n := by omega
        subst hin
        rw [← he, hno, Option.none_or, rbA_look]
theorem rbP_good (e b : List (Int × Int)) : GoodP (rbP e b) := by
  obtain ⟨h1, h2, _⟩ := rbTo_spec e b tableK.length (Nat.le_refl _)
  exact ⟨h1, fun p hp => (inT_iff _).2 (h2 p hp)⟩
theorem GoodP.look_out {l : List (Int × Int)} (h : GoodP l) {k : Int} (hk : ¬ ∃ i, i < tableK.length ∧ tK i = k) : lookP l k = none :=
  lookP_none _ _ fun p hp he => hk ((inT_iff k).1 (by rw [← he]; exact h.2 p hp))
theorem rbP_look {e b : List (Int × Int)} (he : GoodP e) (hb : GoodP b) (k : Int) : lookP (rbP e b) k = rebO (lookP e k) (lookP b k) (findK k).std := by
  by_cases hk : ∃ i, i < tableK.length ∧ tK i = k
  · exact (rbTo_spec e b tableK.length (Nat.le_refl _)).2.2 k hk
  · rw [(rbP_good e b).look_out hk, he.look_out hk, hb.look_out hk]; rfl
theorem rbP_mem {e b : List (Int × Int)} (he : GoodP e) (hb : GoodP b) {p : Int × Int} (hp : p ∈ rbP e b) : p ∈ e ∨ (∃ w, (p.1, w) ∈ b ∧ p.2 = (findK p.1).std) := by
  have h1 := (look_mem_iff (rbP_good e b).1 (k := p.1) (v := p.2)).2 hp
  rw [rbP_look he hb] at h1
  unfold rebO at h1
  split at h1
  · rename_i v hv
    split at h1
    · cases h1
    · cases h1; exact .inl (look_some_mem hv)
  · split at h1
    · rename_i w hw
      split at h1
      · cases h1
      · exact .inr ⟨w, look_some_mem hw, (Option.some.inj h1).symm⟩
    · cases h1
/-! ### the same properties, set one after another -/
def p1To (e b : List (Int × Int)) : Nat → List (Int × Int)
  | 0 => []
  | i + 1 => if lookP b (pAt e i).1 = some (pAt e i).2 then p1To e b i else setP (p1To e b i) (pAt e i).1 (pAt e i).2
def p2To (e b : List (Int × Int)) : Nat → List (Int × Int)
  | 0 => p1To e b e.length
  | j + 1 => if (lookP e (pAt b j).1).isSome = true then p2To e b j else if (findK (pAt b j).1).std = (pAt b j).2 then p2To e b j else setP (p2To e b j) (pAt b j).1 (findK (pAt b j).1).std
theorem GoodP.setP {l : List (Int × Int)} (h : GoodP l) {k : Int} (hk : inI (keysK tableK) k = true) (v : Int) : GoodP (setP l k v) := by
  have hi := setP_inc h.1 k v
  refine ⟨hi, fun p hp => ?_⟩
  have h1 := (look_mem_iff hi (k := p.1) (v := p.2)).2 hp
  rw [setP_look] at h1
  by_cases e : p.1 = k
  · rw [e]; exact hk
  · rw [if_neg e] at h1; exact h.2 _ (look_some_mem h1)
theorem mem_ext {e : List (Int × Int)} {p : Int × Int} : p ∈ e ↔ ∃ i : Nat, i < e.length ∧ pAt e i = p := by
  constructor
  · intro h
    obtain ⟨i, h0, h1, h2⟩ := mem_pAt h
    exact ⟨i.toNat, by omega, by rw [show ((i.toNat : Nat) : Int) = i by omega]; exact h2⟩
  · rintro ⟨i, hi, rfl⟩; exact pAt_mem (by omega) (by omega)
theorem p1To_spec {e b : List (Int × Int)} (he : GoodP e) : ∀ i, i ≤ e.length → GoodP (p1To e b i) ∧ ∀ k, lookP (p1To e b i) k = if ∃ j : Nat, j < i ∧ (pAt e j).1 = k then rebO (lookP e k) (lookP b k) (findK k).std else none
  | 0, _ => ⟨GoodP.nil, fun k => by rw [if_neg (fun ⟨j, hj, _⟩ => by omega)]; rfl⟩
  | i + 1, hi => by
    obtain ⟨h1, h2⟩ := p1To_spec (b := b) he i (by omega)
    have hm := pAt_mem (ps := e) (i := (i : Int)) (by omega) (by omega)
    have hl := (look_mem_iff he.1 (k := (pAt e i).1) (v := (pAt e i).2)).2 hm
    have hu : ∀ j : Nat, j < i → (pAt e j).1 ≠ (pAt e i).1 := fun j hj => by
      have := he.1.lt (i := j) (j := i) hj (by rw [keysP_len]; omega)
      rw [kAt_keysP _ _ (by omega), kAt_keysP _ _ (by omega)] at this
      omega
    have ex : ∀ k, (pAt e i).1 ≠ k → ((∃ j : Nat, j < i + 1 ∧ (pAt e j).1 = k) ↔ ∃ j : Nat, j < i ∧ (pAt e j).1 = k) := fun k hk => by
      constructor
      · rintro ⟨j, hj, h⟩
        rcases Nat.lt_or_eq_of_le (Nat.le_of_lt_succ hj) with h3 | h3
        · exact ⟨j, h3, h⟩
        · subst h3; exact absurd h hk
      · rintro ⟨j, hj, h⟩; exact ⟨j, by omega, h⟩
    rw [p1To]
    by_cases hb : lookP b (pAt e i).1 = some (pAt e i).2
    · rw [if_pos hb]
      refine ⟨h1, fun k => ?_⟩
      rw [h2 k]
      by_cases hk : (pAt e i).1 = k
      · rw [if_neg (fun ⟨j, hj, h⟩ => hu j hj (by rw [h, hk])), if_pos ⟨i, by omega, hk⟩, ← hk, hl, hb]
        unfold rebO; simp
      · simp only [ex k hk]
    · rw [if_neg hb]
      refine ⟨h1.setP (he.2 _ hm) _, fun k => ?_⟩
      rw [setP_look]
      by_cases hk : (pAt e i).1 = k
      · rw [if_pos hk.symm, if_pos ⟨i, by omega, hk⟩, ← hk, hl]
        unfold rebO; simp [hb]
      · rw [if_neg (fun h => hk h.symm), h2 k]
        simp only [ex k hk]
theorem p2To_spec {e b : List (Int × Int)} (he : GoodP e) (hb : GoodP b) : ∀ i, i ≤ b.length → GoodP (p2To e b i) ∧ ∀ k, lookP (p2To e b i) k = if (lookP e k).isSome = true ∨ ∃ j : Nat, j < i ∧ (pAt b j).1 = k then rebO (lookP e k) (lookP b k) (findK k).std else none
  | 0, _ => by
    obtain ⟨h1, h2⟩ := p1To_spec (b := b) he e.length (Nat.le_refl _)
    refine ⟨h1, fun k => ?_⟩
    rw [p2To, h2 k]
    have : (∃ j : Nat, j < e.length ∧ (pAt e j).1 = k) ↔ ((lookP e k).isSome = true ∨ ∃ j : Nat, j < 0 ∧ (pAt b j).1 = k) := by
      constructor
      · rintro ⟨j, hj, h⟩
        left
        have := (look_mem_iff he.1 (k := (pAt e j).1) (v := (pAt e j).2)).2 (pAt_mem (by omega) (by omega))
        rw [← h, this]; rfl
      · rintro (h | ⟨j, hj, _⟩)
        · obtain ⟨v, hv⟩ := Option.isSome_iff_exists.1 h
          obtain ⟨j, hj, hp⟩ := mem_ext.1 (look_some_mem hv)
          exact ⟨j, hj, by rw [hp]⟩
        · omega
    simp only [this]
  | i + 1, hi => by
    obtain ⟨h1, h2⟩ := p2To_spec he hb i (by omega)
    have hm := pAt_mem (ps := b) (i := (i : Int)) (by omega) (by omega)
    have hl := (look_mem_iff hb.1 (k := (pAt b i).1) (v := (pAt b i).2)).2 hm
    have hu : ∀ j : Nat, j < i → (pAt b j).1 ≠ (pAt b i).1 := fun j hj => by
      have := hb.1.lt (i := j) (j := i) hj (by rw [keysP_len]; omega)
      rw [kAt_keysP _ _ (by omega), kAt_keysP _ _ (by omega)] at this
      omega
    have ex : ∀ k, (pAt b i).1 ≠ k → ((∃ j : Nat, j < i + 1 ∧ (pAt b j).1 = k) ↔ ∃ j : Nat, j < i ∧ (pAt b j).1 = k) := fun k hk => by
      constructor
      · rintro ⟨j, hj, h⟩
        rcases Nat.lt_or_eq_of_le (Nat.le_of_lt_succ hj) with h3 | h3
        · exact ⟨j, h3, h⟩
        · subst h3; exact absurd h hk
      · rintro ⟨j, hj, h⟩; exact ⟨j, by omega, h⟩
    rw [p2To]
    by_cases hs : (lookP e (pAt b i).1).isSome = true
    · rw [if_pos hs]
      refine ⟨h1, fun k => ?_⟩
      rw [h2 k]
      by_cases hk : (pAt b i).1 = k
      · rw [if_pos (.inl (by rw [← hk]; exact hs)), if_pos (.inl (by rw [← hk]; exact hs))]
      · simp only [ex k hk]
    · have hn : lookP e (pAt b i).1 = none := by simpa using hs
      rw [if_neg hs]
      have hnot : ∀ k, (pAt b i).1 = k → ¬ ((lookP e k).isSome = true ∨ ∃ j : Nat, j < i ∧ (pAt b j).1 = k) := fun k hk h => by
        rcases h with h | ⟨j, hj, h⟩
        · rw [← hk] at h; exact hs h
        · exact hu j hj (by rw [h, hk])
      by_cases hd : (findK (pAt b i).1).std = (pAt b i).2
      · rw [if_pos hd]
        refine ⟨h1, fun k => ?_⟩
        rw [h2 k]
        by_cases hk : (pAt b i).1 = k
        · rw [if_neg (hnot k hk), if_pos (.inr ⟨i, by omega, hk⟩), ← hk, hn, hl]
          unfold rebO; simp [hd]
        · simp only [ex k hk]
      · rw [if_neg hd]
        refine ⟨h1.setP (hb.2 _ hm) _, fun k => ?_⟩
        rw [setP_look]
        by_cases hk : (pAt b i).1 = k
        · rw [if_pos hk.symm, if_pos (.inr ⟨i, by omega, hk⟩), ← hk, hn, hl]
          have hd2 : ¬ (pAt b i).2 = (findK (pAt b i).1).std := fun h => hd h.symm
          unfold rebO; simp [hd2]
        · rw [if_neg (fun h => hk h.symm), h2 k]
          simp only [ex k hk]
theorem p2To_full {e b : List (Int × Int)} (he : GoodP e) (hb : GoodP b) : p2To e b b.length = rbP e b := by
  obtain ⟨h1, h2⟩ := p2To_spec he hb b.length (Nat.le_refl _)
  refine lookP_ext _ _ h1.1 (rbP_good e b).1 fun k => ?_
  rw [h2, rbP_look he hb]
  split
  · rfl
  · rename_i h
    have h3 : lookP e k = none := by
      cases hh : lookP e k with
      | none => rfl
      | some v => exact absurd (.inl (by rw [hh]; rfl)) h
    have h4 : lookP b k = none := by
      cases hh : lookP b k with
      | none => rfl
      | some v =>
        obtain ⟨j, hj, hp⟩ := mem_ext.1 (look_some_mem hh)
        exact absurd (.inr ⟨j, hj, by rw [hp]⟩) h
    rw [h3, h4]; rfl
/-! ### what Rebase returns -/
def onP (l : List Sty) (base id : Int) : Prop := ∃ k, k < chN l base ∧ sq l base k = id
instance (l : List Sty) (base id : Int) : Decidable (onP l base id) := by unfold onP; infer_instance
def rebE (l : List Sty) (id base : Int) : Int := if foundE l id ≠ 0 then foundE l id else if base ≠ 0 ∧ ¬ isP l (yF l id).kind base then 25 else if onP l base id then 16 else 0
def rebT (l : List Sty) (id base : Int) : Sty := ⟨(yF l id).id, (yF l id).kind, (yF l id).name, base, (yF l id).next, rbP (effP l id) (effP l base)⟩
def rebS (l : List Sty) (id base : Int) : List Sty := l.set (findS l id).toNat (rebT l id base)
def rebV (l : List Sty) (id base : Int) : List Sty := if rebE l id base = 0 then rebS l id base else []
theorem rebV_bad {l : List Sty} {id base : Int} (h : rebE l id base ≠ 0) : rebV l id base = [] := by unfold rebV; rw [if_neg h]
structure RebOk (l : List Sty) (id base : Int) : Prop where
  good : Good l
  found : 0 ≤ findS l id
  kind : base = 0 ∨ isP l (yF l id).kind base
  off : ¬ onP l base id
theorem rebE_ok {l : List Sty} {id base : Int} (h : rebE l id base = 0) : RebOk l id base := by
  unfold rebE at h
  by_cases h1 : foundE l id ≠ 0
  · rw [if_pos h1] at h; exact absurd h h1
  · rw [if_neg h1] at h
    obtain ⟨hg, hf⟩ := foundE_ok (Classical.not_not.1 h1)
    by_cases h2 : base ≠ 0 ∧ ¬ isP l (yF l id).kind base
    · rw [if_pos h2] at h; omega
    · rw [if_neg h2] at h
      by_cases h3 : onP l base id
      · rw [if_pos h3] at h; omega
      · exact ⟨hg, hf, Classical.byContradiction fun e => h2 ⟨fun e2 => e (.inl e2), fun e2 => e (.inr e2)⟩, h3⟩
theorem rebS_eq {l : List Sty} (hi : IncS l) {id : Int} (hf : 0 ≤ findS l id) (base : Int) : rebS l id base = l.map fun s => if s.id = id then rebT l id base else s := by
  obtain ⟨j, h1, h2, h3, _⟩ := findS_pos hf
  unfold rebS
  rw [h2, Int.toNat_natCast]
  apply List.ext_getElem (by simp)
  intro i hi1 hi2
  rw [List.length_set] at hi1
  rw [List.getElem_set, List.getElem_map]
  by_cases hij : j = i
  · subst hij
    rw [if_pos rfl, if_pos (show l[j].id = id from (congrArg Sty.id (yAt_get l j h1)).symm.trans h3)]
  · rw [if_neg hij, if_neg (fun e => hij (hi.inj h1 hi1 (by rw [h3, yAt_get l i hi1, e])))]
def rebF (l : List Sty) (id base : Int) (s : Sty) : Sty := if s.id = id then rebT l id base else s
theorem RebOk.mem {l : List Sty} {id base : Int} (h : RebOk l id base) {t : Sty} : t ∈ rebS l id base ↔ ∃ s ∈ l, rebF l id base s = t := by
  rw [rebS_eq h.good.inc h.found, List.mem_map]; rfl
theorem RebOk.same {l : List Sty} {id base : Int} (h : RebOk l id base) {s : Sty} (hs : s ∈ l) : (rebF l id base s).id = s.id ∧ (rebF l id base s).kind = s.kind ∧ (rebF l id base s).name = s.name ∧ (rebF l id base s).next = s.next := by
  unfold rebF
  by_cases e : s.id = id
  · rw [if_pos e]
    have : s = yF l id := h.good.inc.uniq hs (yF_mem h.found) (by rw [e, yF_id h.found])
    rw [this]; exact ⟨rfl, rfl, rfl, rfl⟩
  · rw [if_neg e]; exact ⟨rfl, rfl, rfl, rfl⟩
theorem eff_one {l : List Sty} (hg : Good l) {s : Sty} (hs : s ∈ l) : ∀ p ∈ effP l s.id, (fitsP (if s.kind = 1 then 2 else 1) p.1 = true ∧ checkV p.1 p.2 = 0) ∧ p.1 ≠ 20 ∧ p.1 ≠ 1 := by
  have h := good_iff.1 hg
  obtain ⟨r, hr⟩ := h.rank
  have key : ∀ (n : Nat) (s : Sty), s ∈ l → r s.id < n → ∀ p ∈ effP l s.id, (fitsP (if s.kind = 1 then 2 else 1) p.1 = true ∧ checkV p.1 p.2 = 0) ∧ p.1 ≠ 20 ∧ p.1 ≠ 1 := by
    intro n
    induction n with
    | zero => intro s _ hlt; omega
    | succ n ih =>
      intro s hs hlt p hp
      have hge := hg.effP (.inr (hg.inc.mem hs).1)
      have h1 := (look_mem_iff hge.1 (k := p.1) (v := p.2)).2 hp
      rw [eff_look hg hs] at h1
      have o := h.one s hs
      cases h2 : lookP s.props p.1 with
      | some v =>
        rw [h2] at h1; cases h1
        refine ⟨o.props p (look_some_mem h2), fun e => ?_, fun e => ?_⟩
        · rw [e, o.no20] at h2; cases h2
        · rw [e, o.no1] at h2; cases h2
      | none =>
        rw [h2, Option.none_or] at h1
        rcases h.base s hs with h0 | ⟨b, hb, h3, h4⟩
        · rw [h0, eff_zero] at h1; cases h1
        · have hz : s.base ≠ 0 := by have := (h.one b hb).lo; omega
          have h5 := hr s hs hz
          rw [← h3] at h1 h5
          rw [← h4]
          exact ih b hb (by omega) p (look_some_mem h1)
  exact key _ s hs (Nat.lt_succ_self _)
theorem on_step {l : List Sty} (hg : Good l) {s : Sty} (hs : s ∈ l) (id : Int) : onP l s.id id ↔ s.id = id ∨ onP l s.base id := by
  obtain ⟨h1, h2⟩ := hg.inc.mem hs
  unfold onP
  rw [hg.step hs]
  constructor
  · rintro ⟨k, hk, he⟩
    cases k with
    | zero => exact .inl he
    | succ k => rw [sq_shift, h2] at he; exact .inr ⟨k, by omega, he⟩
  · rintro (he | ⟨k, hk, he⟩)
    · exact ⟨0, by omega, he⟩
    · exact ⟨k + 1, by omega, by rw [sq_shift, h2]; exact he⟩
theorem RebOk.good2 {l : List Sty} {id base : Int} (hq : RebOk l id base) : Good (rebS l id base) := by
  have hg := hq.good
  have h := good_iff.1 hg
  have hi := hg.inc
  have hsm := yF_mem hq.found
  have hsi := yF_id hq.found
  have lift : ∀ b ∈ l, ∃ c ∈ rebS l id base, c.id = b.id ∧ c.kind = b.kind := fun b hb => ⟨_, hq.mem.2 ⟨b, hb, rfl⟩, (hq.same hb).1, (hq.same hb).2.1⟩
  have hb0 : base = 0 ∨ 0 ≤ findS l base := hq.kind.imp (fun h => h) (fun h => h.1)
  have he := hg.effP (.inr hq.found)
  have hb := hg.effP hb0
  refine good_iff.2 ⟨?_, ?_, ?_, ?_, ?_, ?_, ?_⟩
  · unfold rebS; rw [List.length_set]; exact h.len
  · rw [rebS_eq hi hq.found, List.pairwise_map]
    refine h.inc.imp_of_mem fun {a b} ha hb hab => ?_
    show (rebF l id base a).id < (rebF l id base b).id
    rw [(hq.same ha).1, (hq.same hb).1]; exact hab
  · rw [rebS_eq hi hq.found, List.pairwise_map]
    refine h.new.imp_of_mem fun {a b} ha hb hab => ?_
    show ¬ ((rebF l id base a).kind = (rebF l id base b).kind ∧ (rebF l id base a).name = (rebF l id base b).name)
    rw [(hq.same ha).2.1, (hq.same hb).2.1, (hq.same ha).2.2.1, (hq.same hb).2.2.1]; exact hab
  · intro t ht
    obtain ⟨s, hs, rfl⟩ := hq.mem.1 ht
    have o := h.one s hs
    by_cases e : s.id = id
    · have es : s = yF l id := hi.uniq hs hsm (by rw [e, hsi])
      have ef : rebF l id base s = rebT l id base := by unfold rebF; rw [if_pos e]
      rw [ef]
      rw [es] at o
      have hmem : ∀ p ∈ rbP (effP l id) (effP l base), (fitsP (if (yF l id).kind = 1 then 2 else 1) p.1 = true ∧ checkV p.1 p.2 = 0) ∧ p.1 ≠ 20 ∧ p.1 ≠ 1 := fun p hp => by
        rcases rbP_mem he hb hp with hp | ⟨w, hp, hd⟩
        · have := eff_one hg hsm p (by rw [hsi]; exact hp)
          exact this
        · rcases hq.kind with hz | hk
          · rw [hz, eff_zero] at hp; cases hp
          · obtain ⟨b, hbm, hb1, hb2⟩ := (hi.isP _ _).1 hk
            have := eff_one hg hbm (p.1, w) (by rw [hb1]; exact hp)
            rw [hb2] at this
            refine ⟨⟨this.1.1, ?_⟩, this.2⟩
            rw [hd]
            exact (std_ok p.1).resolve_right (by rw [(fits_key this.1.1).1]; simp)
      exact ⟨o.lo, o.hi, o.kind, o.name, lookP_none _ _ fun p hp => (hmem p hp).2.1, lookP_none _ _ fun p hp => (hmem p hp).2.2, (rbP_good _ _).1, fun p hp => (hmem p hp).1⟩
    · have ef : rebF l id base s = s := by unfold rebF; rw [if_neg e]
      rw [ef]; exact o
  · intro t ht
    obtain ⟨s, hs, rfl⟩ := hq.mem.1 ht
    by_cases e : s.id = id
    · have ef : rebF l id base s = rebT l id base := by unfold rebF; rw [if_pos e]
      rw [ef]
      rcases hq.kind with hz | hk
      · exact .inl hz
      · obtain ⟨b, hbm, hb1, hb2⟩ := (hi.isP _ _).1 hk
        obtain ⟨c, c1, c2, c3⟩ := lift b hbm
        exact .inr ⟨c, c1, by rw [c2, hb1]; rfl, by rw [c3, hb2]; rfl⟩
    · have ef : rebF l id base s = s := by unfold rebF; rw [if_neg e]
      rw [ef]
      rcases h.base s hs with h0 | ⟨b, hbm, hb1, hb2⟩
      · exact .inl h0
      · obtain ⟨c, c1, c2, c3⟩ := lift b hbm
        exact .inr ⟨c, c1, by rw [c2, hb1], by rw [c3, hb2]⟩
  · intro t ht
    obtain ⟨s, hs, rfl⟩ := hq.mem.1 ht
    rw [(hq.same hs).2.2.2, (hq.same hs).2.1]
    rcases h.next s hs with h0 | ⟨hk, n, hn, h1, h2⟩
    · exact .inl h0
    · obtain ⟨c, c1, c2, c3⟩ := lift n hn
      exact .inr ⟨hk, c, c1, by rw [c2, h1], by rw [c3, h2]⟩
  · obtain ⟨r, hr⟩ := h.rank
    refine ⟨fun x => if onP l x id then r x + r base + 1 else r x, fun t ht hz => ?_⟩
    obtain ⟨s, hs, rfl⟩ := hq.mem.1 ht
    (try dsimp only)
    rw [(hq.same hs).1]
    by_cases e : s.id = id
    · have ef : rebF l id base s = rebT l id base := by unfold rebF; rw [if_pos e]
      have eb : (rebF l id base s).base = base := by rw [ef]; rfl
      rw [eb, if_neg hq.off, if_pos ((on_step hg hs id).2 (.inl e))]
      omega
    · have ef : rebF l id base s = s := by unfold rebF; rw [if_neg e]
      rw [ef] at hz ⊢
      have h1 := hr s hs hz
      have h2 := on_step hg hs id
      by_cases h3 : onP l s.base id
      · rw [if_pos h3, if_pos (h2.2 (.inr h3))]; omega
      · rw [if_neg h3, if_neg (fun h4 => (h2.1 h4).elim e h3)]; exact h1
def RelO (a b : Option Int) (d : Int) : Prop := (a.isSome = true → b.isSome = true) ∧ a.getD d = b.getD d
theorem RelO.refl (a : Option Int) (d : Int) : RelO a a d := ⟨id, rfl⟩
theorem RelO.or {a b : Option Int} {d : Int} (h : RelO a b d) (c : Option Int) : RelO (c.or a) (c.or b) d := by
  cases c with
  | none => exact h
  | some v => exact ⟨fun _ => rfl, rfl⟩
theorem rebO_rel (a b : Option Int) (d : Int) : RelO a ((rebO a b d).or b) d := by
  cases a with
  | some v =>
    by_cases h : b = some v
    · subst h; simp [rebO, RelO]
    · simp [rebO, RelO, h]
  | none =>
    cases b with
    | none => simp [rebO, RelO]
    | some w =>
      by_cases h : w = d
      · simp [rebO, RelO, h]
      · simp [rebO, RelO, h]
theorem RebOk.eff {l : List Sty} {id base : Int} (hq : RebOk l id base) {s : Sty} (hs : s ∈ l) (x : Int) : RelO (lookP (effP l s.id) x) (lookP (effP (rebS l id base) s.id) x) (findK x).std := by
  have hg := hq.good
  have h := good_iff.1 hg
  have hi := hg.inc
  have hm := hq.good2
  have hsm := yF_mem hq.found
  have hsi := yF_id hq.found
  have hb0 : base = 0 ∨ 0 ≤ findS l base := hq.kind.imp (fun h => h) (fun h => h.1)
  obtain ⟨r, hr⟩ := h.rank
  have same : ∀ (n : Nat) (y : Int), r y < n → (y = 0 ∨ ∃ s ∈ l, s.id = y) → ¬ onP l y id → lookP (effP (rebS l id base) y) x = lookP (effP l y) x := by
    intro n
    induction n with
    | zero => intro y hlt; omega
    | succ n ih =>
      intro y hlt hy hno
      rcases hy with rfl | ⟨s, hs, rfl⟩
      · rw [eff_zero, eff_zero]
      · have hst := on_step hg hs id
        have e : s.id ≠ id := fun e => hno (hst.2 (.inl e))
        have ef : rebF l id base s = s := by unfold rebF; rw [if_neg e]
        have hmm : s ∈ rebS l id base := hq.mem.2 ⟨s, hs, ef⟩
        rw [eff_look hg hs, eff_look hm hmm]
        congr 1
        rcases h.base s hs with h0 | ⟨b, hbm, hb1, _⟩
        · rw [h0, eff_zero, eff_zero]
        · have hz : s.base ≠ 0 := by have := (h.one b hbm).lo; omega
          have h2 := hr s hs hz
          exact ih _ (by omega) (.inr ⟨b, hbm, hb1⟩) fun h3 => hno (hst.2 (.inr h3))
  have key : ∀ (n : Nat) (s : Sty), s ∈ l → r s.id < n → RelO (lookP (effP l s.id) x) (lookP (effP (rebS l id base) s.id) x) (findK x).std := by
    intro n
    induction n with
    | zero => intro s _ hlt; omega
    | succ n ih =>
      intro s hs hlt
      have hmm : rebF l id base s ∈ rebS l id base := hq.mem.2 ⟨s, hs, rfl⟩
      have e1 := eff_look hm hmm x
      rw [(hq.same hs).1] at e1
      by_cases e : s.id = id
      · have ef : rebF l id base s = rebT l id base := by unfold rebF; rw [if_pos e]
        have eb : (rebF l id base s).base = base := by rw [ef]; rfl
        have ep : (rebF l id base s).props = rbP (effP l id) (effP l base) := by rw [ef]; rfl
        rw [e1, eb, ep, rbP_look (hg.effP (.inr hq.found)) (hg.effP hb0), same _ base (Nat.lt_succ_self _) (hb0.imp (fun h => h) fun h => ⟨yF l base, yF_mem h, yF_id h⟩) hq.off, e]
        exact rebO_rel _ _ _
      · have ef : rebF l id base s = s := by unfold rebF; rw [if_neg e]
        rw [e1, ef, eff_look hg hs]
        refine RelO.or ?_ _
        rcases h.base s hs with h0 | ⟨b, hbm, hb1, _⟩
        · rw [h0, eff_zero, eff_zero]; exact RelO.refl _ _
        · have hz : s.base ≠ 0 := by have := (h.one b hbm).lo; omega
          have h2 := hr s hs hz
          rw [← hb1] at h2 ⊢
          exact ih b hbm (by omega)
  exact key _ s hs (Nat.lt_succ_self _)
end Go.Ob
