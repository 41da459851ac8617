import Derived.Test.YtajklmaaokgecaaK8
set_option linter.unusedVariables false
set_option linter.unusedSimpArgs false
namespace Go.Ob
open Go.Proofs
/-! ### changes applied -/
def applyStep (l : List (Int × Int)) (c : Ch) : Option (List (Int × Int)) :=
  if (lookP l c.key).isSome ≠ c.had ∨ ((lookP l c.key).isSome = true ∧ (lookP l c.key).getD 0 ≠ c.old) then none else some (if c.has = true then setP l c.key c.new else clearP l c.key)
def applyAll : List (Int × Int) → List Ch → Option (List (Int × Int))
  | l, [] => some l
  | l, c :: cs => (applyStep l c).bind fun x => applyAll x cs
theorem applyAll_append : ∀ (cs ds : List Ch) (l : List (Int × Int)), applyAll l (cs ++ ds) = (applyAll l cs).bind fun x => applyAll x ds
  | [], _, _ => rfl
  | c :: cs, ds, l => by
    rw [List.cons_append, applyAll, applyAll]
    cases applyStep l c with
    | none => rfl
    | some x => exact applyAll_append cs ds x
theorem applyAll_take (l : List (Int × Int)) (cs : List Ch) (i : Int) (h0 : 0 ≤ i) (h1 : i < cs.length) : applyAll l (cs.take (i + 1).toNat) = (applyAll l (cs.take i.toNat)).bind fun x => applyStep x (hAt cs i) := by
  have hl : i.toNat < cs.length := by omega
  rw [show (i + 1).toNat = i.toNat + 1 by omega, List.take_succ_eq_append_getElem hl, applyAll_append]
  have : cs[i.toNat] = hAt cs i := by simp [hAt, hl]
  rw [this]
  congr 1
  funext x
  simp [applyAll]
theorem applyAll_none (l : List (Int × Int)) (cs : List Ch) (n : Nat) (h : applyAll l (cs.take n) = none) : applyAll l cs = none := by
  rw [← List.take_append_drop n cs, applyAll_append, h]; rfl
theorem applyStep_spec {l x : List (Int × Int)} {c : Ch} (hl : Inc (keysP l)) (h : applyStep l c = some x) : Inc (keysP x) ∧ x.length ≤ l.length + 1 := by
  unfold applyStep at h
  split at h
  · cases h
  · simp only [Option.some.injEq] at h
    subst h
    split
    · exact ⟨setP_inc hl _ _, setP_len _ _ _⟩
    · exact ⟨clearP_inc hl _, by have := clearP_len l c.key; omega⟩
/-- the change of a key between two lists -/
def chK (a b : List (Int × Int)) (k : Int) : Ch := ⟨k, (lookP a k).getD 0, (lookP b k).getD 0, (lookP a k).isSome, (lookP b k).isSome⟩
theorem apply_all (b : List (Int × Int)) (hb : Inc (keysP b)) : ∀ (cs : List Ch) (a : List (Int × Int)), Inc (keysP a) → (cs.map (·.key)).Nodup → (∀ c ∈ cs, c = chK a b c.key) → (∀ k, (∀ c ∈ cs, c.key ≠ k) → lookP a k = lookP b k) → applyAll a cs = some b
  | [], a, ha, _, _, h => by
    rw [applyAll, lookP_ext a b ha hb fun k => h k (by simp)]
  | c :: cs, a, ha, hn, hc, h => by
    have hn' := List.nodup_cons.1 (show (c.key :: cs.map (·.key)).Nodup from hn)
    have e := hc c (by simp)
    have hstep : ∃ x, applyStep a c = some x ∧ Inc (keysP x) ∧ ∀ k, lookP x k = if k = c.key then lookP b k else lookP a k := by
      rw [e]
      unfold applyStep chK
      simp only
      refine ⟨_, if_neg (by simp), ?_⟩
      cases hbk : lookP b c.key with
      | some v =>
        simp only [Option.isSome_some, if_true, Option.getD_some]
        refine ⟨setP_inc ha _ _, fun k => ?_⟩
        rw [setP_look]
        by_cases hk : k = c.key
        · rw [if_pos hk, if_pos hk, hk, hbk]
        · rw [if_neg hk, if_neg hk]
      | none =>
        simp only [Option.isSome_none, Bool.false_eq_true, if_false]
        refine ⟨clearP_inc ha _, fun k => ?_⟩
        rw [clearP_look]
        by_cases hk : k = c.key
        · rw [if_pos hk, if_pos hk, hk, hbk]
        · rw [if_neg hk, if_neg hk]
    obtain ⟨x, hx, hxi, hxl⟩ := hstep
    rw [applyAll, hx]
    refine apply_all b hb cs x hxi hn'.2 (fun d hd => ?_) (fun k hk => ?_)
    · have e2 := hc d (by simp [hd])
      have hne : d.key ≠ c.key := fun he => hn'.1 (List.mem_map.2 ⟨d, hd, he⟩)
      rw [e2]
      unfold chK
      simp only
      rw [hxl, if_neg (by rw [e2] at hne; exact hne)]
    · rw [hxl]
      by_cases hkc : k = c.key
      · rw [if_pos hkc]
      · rw [if_neg hkc]
        exact h k fun d hd => by
          rcases List.mem_cons.1 hd with rfl | hd
          · exact fun h => hkc h.symm
          · exact hk d hd
theorem look_gt {l : List (Int × Int)} {m k : Int} (h : ∀ p ∈ l, m < p.1) (hk : k ≤ m) : lookP l k = none := lookP_none l k fun p hp => by have := h p hp; omega
theorem pick_gt (a b : List (Int × Int)) (m : Int) (ha : ∀ p ∈ a, m < p.1) (hb : ∀ p ∈ b, m < p.1) : ∀ p ∈ pairsL a b, m < (pickP p).1 := fun p hp => mergeP_gt a b m ha hb _ (List.mem_map.2 ⟨p, hp, rfl⟩)
theorem pairs_char (a b : List (Int × Int)) (ha : Inc (keysP a)) (hb : Inc (keysP b)) : ∀ p ∈ pairsL a b, chOf p = chK a b (pickP p).1 := by
  fun_induction pairsL a b with
  | case1 => simp
  | case2 x a ih =>
    obtain ⟨h1, h2⟩ := Inc.cons'.1 ha
    intro p hp
    rcases List.mem_cons.1 hp with rfl | hp
    · simp [chOf, chK, pickP, lookP]
    · have hg := pick_gt a [] x.1 h1 (by simp) p hp
      rw [ih h2 hb p hp]
      unfold chK
      rw [lookP_cons, if_neg (by omega)]
  | case3 y b ih =>
    obtain ⟨h1, h2⟩ := Inc.cons'.1 hb
    intro p hp
    rcases List.mem_cons.1 hp with rfl | hp
    · simp [chOf, chK, pickP, lookP]
    · have hg := pick_gt [] b y.1 (by simp) h1 p hp
      rw [ih ha h2 p hp]
      unfold chK
      rw [lookP_cons y b, if_neg (by omega)]
  | case4 x a y b h ih =>
    obtain ⟨h1, h2⟩ := Inc.cons'.1 ha
    obtain ⟨h3, h4⟩ := Inc.cons'.1 hb
    have hyb : ∀ p ∈ y :: b, x.1 < p.1 := fun p hp => by
      rcases List.mem_cons.1 hp with rfl | hp
      · exact h
      · exact Int.lt_trans h (h3 p hp)
    intro p hp
    rcases List.mem_cons.1 hp with rfl | hp
    · have e : lookP (y :: b) x.1 = none := look_gt hyb (Int.le_refl _)
      simp [chOf, chK, pickP, lookP_cons x a, e]
    · have hg := pick_gt a (y :: b) x.1 h1 hyb p hp
      rw [ih h2 hb p hp]
      unfold chK
      rw [lookP_cons x a, if_neg (by omega)]
  | case5 x a y b h h' ih =>
    obtain ⟨h1, h2⟩ := Inc.cons'.1 ha
    obtain ⟨h3, h4⟩ := Inc.cons'.1 hb
    have hxa : ∀ p ∈ x :: a, y.1 < p.1 := fun p hp => by
      rcases List.mem_cons.1 hp with rfl | hp
      · exact h'
      · exact Int.lt_trans h' (h1 p hp)
    intro p hp
    rcases List.mem_cons.1 hp with rfl | hp
    · have e : lookP (x :: a) y.1 = none := look_gt hxa (Int.le_refl _)
      simp [chOf, chK, pickP, lookP_cons y b, e]
    · have hg := pick_gt (x :: a) b y.1 hxa h3 p hp
      rw [ih ha h4 p hp]
      unfold chK
      rw [lookP_cons y b, if_neg (by omega)]
  | case6 x a y b h h' ih =>
    obtain ⟨h1, h2⟩ := Inc.cons'.1 ha
    obtain ⟨h3, h4⟩ := Inc.cons'.1 hb
    have he : x.1 = y.1 := by omega
    intro p hp
    rcases List.mem_cons.1 hp with rfl | hp
    · simp [chOf, chK, pickP, lookP_cons x a, lookP_cons y b, he]
    · have hg := pick_gt a b x.1 h1 (fun p hp => by have := h3 p hp; omega) p hp
      rw [ih h2 h4 p hp]
      unfold chK
      rw [lookP_cons x a, lookP_cons y b, if_neg (by omega), if_neg (by omega)]
theorem mem_of_look {l : List (Int × Int)} {k v : Int} (h : lookP l k = some v) : ∃ p ∈ l, p.1 = k := by
  induction l with
  | nil => cases h
  | cons p l ih =>
    rw [lookP_cons] at h
    by_cases hk : p.1 = k
    · exact ⟨p, by simp, hk⟩
    · rw [if_neg hk] at h
      obtain ⟨q, hq, e⟩ := ih h
      exact ⟨q, by simp [hq], e⟩
theorem diff_mem {a b : List (Int × Int)} (ha : Inc (keysP a)) (hb : Inc (keysP b)) : ∀ c ∈ diffP a b, c = chK a b c.key ∧ keepB c = true := by
  intro c hc
  unfold diffP diffTo at hc
  obtain ⟨h1, h2⟩ := List.mem_filter.1 hc
  obtain ⟨p, hp, rfl⟩ := List.mem_map.1 h1
  refine ⟨?_, h2⟩
  have := pairs_char a b ha hb p hp
  rw [this]; rfl
theorem diff_other {a b : List (Int × Int)} (ha : Inc (keysP a)) (hb : Inc (keysP b)) (k : Int) (h : ∀ c ∈ diffP a b, c.key ≠ k) : lookP a k = lookP b k := by
  obtain ⟨m1, m2⟩ := mergeP_spec a b ha hb
  cases hm : lookP (mergeP a b) k with
  | none =>
    have := m2 k
    rw [hm] at this
    have h1 := Option.or_eq_none_iff.1 this.symm
    rw [h1.1, h1.2]
  | some v =>
    obtain ⟨q, hq, hk⟩ := mem_of_look hm
    obtain ⟨p, hp, rfl⟩ := List.mem_map.1 hq
    have hc := pairs_char a b ha hb p hp
    have hkeep : keepB (chOf p) = false := by
      cases hb2 : keepB (chOf p) with
      | false => rfl
      | true => exact absurd (by rw [hc]; exact hk) (h (chOf p) (List.mem_filter.2 ⟨List.mem_map.2 ⟨p, hp, rfl⟩, hb2⟩))
    rw [hc, hk] at hkeep
    unfold keepB chK at hkeep
    simp only [Bool.or_eq_false_iff, decide_eq_false_iff_not, ne_eq, Decidable.not_not] at hkeep
    cases h1 : lookP a k with
    | none => cases h2 : lookP b k with
      | none => rfl
      | some w => rw [h1, h2] at hkeep; simp at hkeep
    | some u => cases h2 : lookP b k with
      | none => rw [h1, h2] at hkeep; simp at hkeep
      | some w => rw [h1, h2] at hkeep; simp at hkeep; rw [hkeep]
theorem diff_keys {a b : List (Int × Int)} (ha : Inc (keysP a)) (hb : Inc (keysP b)) : ((diffP a b).map (·.key)).Pairwise (· < ·) := by
  obtain ⟨m1, _⟩ := mergeP_spec a b ha hb
  have e : (((pairsL a b).map chOf).map (·.key)) = keysP (mergeP a b) := by
    unfold keysP mergeP
    rw [List.map_map, List.map_map]
    rfl
  unfold Inc at m1
  rw [← e] at m1
  exact m1.sublist (List.filter_sublist.map _)
theorem diff_nodup {a b : List (Int × Int)} (ha : Inc (keysP a)) (hb : Inc (keysP b)) : ((diffP a b).map (·.key)).Nodup := (diff_keys ha hb).imp fun h => by omega
theorem diff_apply {a b : List (Int × Int)} (ha : Inc (keysP a)) (hb : Inc (keysP b)) : applyAll a (diffP a b) = some b :=
  apply_all b hb _ a ha (diff_nodup ha hb) (fun c hc => (diff_mem ha hb c hc).1) (fun k hk => diff_other ha hb k hk)
def invCh (c : Ch) : Ch := ⟨c.key, c.new, c.old, c.has, c.had⟩
def invP (cs : List Ch) : List Ch := cs.reverse.map invCh
theorem invP_len (cs : List Ch) : (invP cs).length = cs.length := by simp [invP]
theorem diff_back {a b : List (Int × Int)} (ha : Inc (keysP a)) (hb : Inc (keysP b)) : applyAll b (invP (diffP a b)) = some a := by
  have hmem : ∀ c ∈ invP (diffP a b), ∃ d ∈ diffP a b, c = invCh d := fun c hc => by
    obtain ⟨d, hd, rfl⟩ := List.mem_map.1 hc
    exact ⟨d, List.mem_reverse.1 hd, rfl⟩
  refine apply_all a ha _ b hb ?_ (fun c hc => ?_) (fun k hk => ?_)
  · have e : (invP (diffP a b)).map (·.key) = ((diffP a b).map (·.key)).reverse := by
      unfold invP
      rw [List.map_map, ← List.map_reverse]
      rfl
    rw [e]
    unfold List.Nodup
    rw [List.pairwise_reverse]
    exact (diff_nodup ha hb).imp fun h => h.symm
  · obtain ⟨d, hd, rfl⟩ := hmem c hc
    have := (diff_mem ha hb d hd).1
    rw [this]; rfl
  · refine (diff_other ha hb k fun d hd => ?_).symm
    exact hk (invCh d) (List.mem_map.2 ⟨d, List.mem_reverse.2 hd, rfl⟩)
/-- how many keys differ -/
def cntD (a b l : List (Int × Int)) : Nat → Int
  | 0 => 0
  | i + 1 => if (lookP a (pAt l i).1).isSome ≠ (lookP b (pAt l i).1).isSome ∨ (lookP a (pAt l i).1).getD 0 ≠ (lookP b (pAt l i).1).getD 0 then cntD a b l i + 1 else cntD a b l i
theorem cntD_bound (a b l : List (Int × Int)) : ∀ i : Nat, 0 ≤ cntD a b l i ∧ cntD a b l i ≤ i
  | 0 => ⟨Int.le_refl _, Int.le_refl _⟩
  | i + 1 => by have := cntD_bound a b l i; unfold cntD; split <;> omega
theorem cntD_step (a b l : List (Int × Int)) (i : Int) (h : 0 ≤ i) : cntD a b l (i + 1).toNat = if (lookP a (pAt l i).1).isSome ≠ (lookP b (pAt l i).1).isSome ∨ (lookP a (pAt l i).1).getD 0 ≠ (lookP b (pAt l i).1).getD 0 then cntD a b l i.toNat + 1 else cntD a b l i.toNat := by
  rw [show (i + 1).toNat = i.toNat + 1 by omega, cntD, show ((i.toNat : Nat) : Int) = i by omega]
theorem cntD_diff {a b : List (Int × Int)} (ha : Inc (keysP a)) (hb : Inc (keysP b)) : cntD a b (mergeR a b) (mergeR a b).length = (diffP a b).length := by
  rw [← mergeP_eq ha hb]
  have key : ∀ (n : Nat), n ≤ (pairsL a b).length → cntD a b (mergeP a b) n = (diffTo ((pairsL a b).take n)).length := by
    intro n
    induction n with
    | zero => intro _; rfl
    | succ n ih =>
      intro hn
      have hget : (pairsL a b)[n]? = some (pairsL a b)[n] := List.getElem?_eq_getElem (by omega)
      have hp := pairs_char a b ha hb _ (List.getElem_mem (show n < (pairsL a b).length by omega))
      have hpa : pAt (mergeP a b) n = pickP (pairsL a b)[n] := by
        unfold pAt mergeP
        rw [Int.toNat_natCast]
        simp [show n < (pairsL a b).length by omega]
      rw [cntD, diffTo_take hget, ih (by omega), hpa]
      have hk : keepB (chOf (pairsL a b)[n]) = true ↔ (lookP a (pickP (pairsL a b)[n]).1).isSome ≠ (lookP b (pickP (pairsL a b)[n]).1).isSome ∨ (lookP a (pickP (pairsL a b)[n]).1).getD 0 ≠ (lookP b (pickP (pairsL a b)[n]).1).getD 0 := by
        rw [hp]
        unfold keepB chK
        simp only [Bool.or_eq_true, decide_eq_true_eq]
        exact Or.comm
      by_cases h : keepB (chOf (pairsL a b)[n]) = true
      · rw [if_pos h, if_pos (hk.1 h), List.length_append]; simp
      · rw [if_neg h, if_neg fun h2 => h (hk.2 h2)]
  have e : (mergeP a b).length = (pairsL a b).length := by simp [mergeP]
  rw [e, key _ (Nat.le_refl _), List.take_of_length_le (Nat.le_refl _)]
  rfl
theorem diff_at {a b : List (Int × Int)} (ha : Inc (keysP a)) (hb : Inc (keysP b)) (i : Int) (h0 : 0 ≤ i) (h1 : i < (diffP a b).length) : hAt (diffP a b) i = chK a b (hAt (diffP a b) i).key ∧ keepB (hAt (diffP a b) i) = true := by
  have hl : i.toNat < (diffP a b).length := by omega
  exact diff_mem ha hb _ (by simp [hAt, hl])
theorem diff_inc {a b : List (Int × Int)} (ha : Inc (keysP a)) (hb : Inc (keysP b)) (i : Int) (h0 : 1 ≤ i) (h1 : i < (diffP a b).length) : (hAt (diffP a b) (i - 1)).key < (hAt (diffP a b) i).key := by
  have hk := diff_keys ha hb
  have := List.pairwise_iff_getElem.1 hk (i - 1).toNat i.toNat (by simp; omega) (by simp; omega) (by omega)
  simpa [hAt, show (i - 1).toNat < (diffP a b).length by omega, show i.toNat - 1 < (diffP a b).length by omega, show i.toNat < (diffP a b).length by omega] using this
theorem diffP_len (a b : List (Int × Int)) : (diffP a b).length ≤ a.length + b.length := Nat.le_trans (diffTo_len _) (pairsL_len a b)
end Go.Ob
