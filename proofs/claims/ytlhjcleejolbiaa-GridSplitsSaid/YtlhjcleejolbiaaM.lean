import Derived.Test.YtlhjcleejolbiaaC1
set_option linter.unusedVariables false
set_option linter.unusedSimpArgs false
namespace Go.Ob
open Go.Proofs
/-! ### lists of properties: what a key has -/
def lookP : List (Int × Int) → Int → Option Int
  | [], _ => none
  | p :: l, k => if p.1 = k then some p.2 else lookP l k
theorem lookP_cons (p : Int × Int) (l : List (Int × Int)) (k : Int) : lookP (p :: l) k = if p.1 = k then some p.2 else lookP l k := rfl
theorem lookP_none : ∀ (l : List (Int × Int)) (k : Int), (∀ p ∈ l, p.1 ≠ k) → lookP l k = none
  | [], _, _ => rfl
  | p :: l, k, h => by rw [lookP, if_neg (h p (by simp)), lookP_none l k fun q hq => h q (by simp [hq])]
theorem lookP_append : ∀ (a b : List (Int × Int)) (k : Int), lookP (a ++ b) k = (lookP a k).or (lookP b k)
  | [], _, _ => by simp [lookP]
  | p :: a, b, k => by
    rw [List.cons_append, lookP, lookP]
    split
    · simp
    · exact lookP_append a b k
theorem Inc.cons {k : Int} {l : List (Int × Int)} {v : Int} : Inc (keysP ((k, v) :: l)) ↔ (∀ p ∈ l, k < p.1) ∧ Inc (keysP l) := by
  unfold Inc keysP
  rw [List.map_cons, List.pairwise_cons]
  simp
theorem Inc.cons' {p : Int × Int} {l : List (Int × Int)} : Inc (keysP (p :: l)) ↔ (∀ q ∈ l, p.1 < q.1) ∧ Inc (keysP l) := Inc.cons
theorem Inc.append {a b : List (Int × Int)} : Inc (keysP (a ++ b)) ↔ Inc (keysP a) ∧ Inc (keysP b) ∧ ∀ p ∈ a, ∀ q ∈ b, p.1 < q.1 := by
  unfold Inc keysP
  rw [List.map_append, List.pairwise_append]
  simp
theorem lookP_gt {l : List (Int × Int)} {k : Int} (h : ∀ p ∈ l, k < p.1) : lookP l k = none := lookP_none l k fun p hp => by have := h p hp; omega
theorem lookP_ext : ∀ (a b : List (Int × Int)), Inc (keysP a) → Inc (keysP b) → (∀ k, lookP a k = lookP b k) → a = b
  | [], [], _, _, _ => rfl
  | [], y :: b, _, _, h => by have := h y.1; simp [lookP] at this
  | x :: a, [], _, _, h => by have := h x.1; simp [lookP] at this
  | x :: a, y :: b, ha, hb, h => by
    obtain ⟨ha1, ha2⟩ := Inc.cons'.1 ha
    obtain ⟨hb1, hb2⟩ := Inc.cons'.1 hb
    rcases Int.lt_trichotomy x.1 y.1 with hlt | heq | hgt
    · have := h x.1
      rw [lookP, if_pos rfl, lookP, if_neg (by omega), lookP_gt fun p hp => by have := hb1 p hp; omega] at this
      cases this
    · have h1 := h x.1
      rw [lookP, if_pos rfl, lookP, if_pos heq.symm] at h1
      have e : x = y := Prod.ext heq (Option.some.inj h1)
      subst e
      rw [lookP_ext a b ha2 hb2 fun k => by
        by_cases hk : x.1 = k
        · subst hk; rw [lookP_gt ha1, lookP_gt hb1]
        · have := h k; rwa [lookP, if_neg hk, lookP, if_neg hk] at this]
    · have := h y.1
      rw [lookP, if_neg (by omega), lookP_gt fun p hp => by have := ha1 p hp; omega] at this
      rw [lookP, if_pos rfl] at this
      cases this
/-! ### pairs of two ordered lists -/
def pairsL : List (Int × Int) → List (Int × Int) → List (Option (Int × Int) × Option (Int × Int))
  | [], [] => []
  | x :: a, [] => (some x, none) :: pairsL a []
  | [], y :: b => (none, some y) :: pairsL [] b
  | x :: a, y :: b => if x.1 < y.1 then (some x, none) :: pairsL a (y :: b) else if y.1 < x.1 then (none, some y) :: pairsL (x :: a) b else (some x, some y) :: pairsL a b
termination_by a b => a.length + b.length
theorem drop_P (l : List (Int × Int)) (i : Int) (h0 : 0 ≤ i) (h1 : i < l.length) : l.drop i.toNat = pAt l i :: l.drop (i + 1).toNat := by
  have hl : i.toNat < l.length := by omega
  rw [List.drop_eq_getElem_cons hl, show (i + 1).toNat = i.toNat + 1 by omega]
  simp [pAt, hl]
theorem drop_P_end (l : List (Int × Int)) (i : Int) (h1 : l.length ≤ i) : l.drop i.toNat = [] := List.drop_eq_nil_of_le (by omega)
theorem pairs_xy {a b : List (Int × Int)} {i k : Int} (h0 : 0 ≤ i) (h1 : i ≤ a.length) (h2 : 0 ≤ k) (h3 : k ≤ b.length) (hx : k = b.length ∨ i < a.length ∧ (pAt a i).1 ≤ (pAt b k).1) (hy : i = a.length ∨ k < b.length ∧ (pAt b k).1 ≤ (pAt a i).1) (hne : i < a.length ∨ k < b.length) :
    pairsL (a.drop i.toNat) (b.drop k.toNat) = (some (pAt a i), some (pAt b k)) :: pairsL (a.drop (i + 1).toNat) (b.drop (k + 1).toNat) := by
  have hi : i < a.length := by omega
  have hk : k < b.length := by omega
  rw [drop_P a i h0 hi, drop_P b k h2 hk, pairsL, if_neg (by omega), if_neg (by omega)]
theorem pairs_x {a b : List (Int × Int)} {i k : Int} (h0 : 0 ≤ i) (h1 : i ≤ a.length) (h2 : 0 ≤ k) (h3 : k ≤ b.length) (hx : k = b.length ∨ i < a.length ∧ (pAt a i).1 ≤ (pAt b k).1) (hy : ¬ (i = a.length ∨ k < b.length ∧ (pAt b k).1 ≤ (pAt a i).1)) (hne : i < a.length ∨ k < b.length) :
    pairsL (a.drop i.toNat) (b.drop k.toNat) = (some (pAt a i), none) :: pairsL (a.drop (i + 1).toNat) (b.drop k.toNat) := by
  have hi : i < a.length := by omega
  rw [drop_P a i h0 hi]
  by_cases hk : k < b.length
  · rw [drop_P b k h2 hk, pairsL, if_pos (by omega)]
  · rw [drop_P_end b k (by omega), pairsL]
theorem pairs_y {a b : List (Int × Int)} {i k : Int} (h0 : 0 ≤ i) (h1 : i ≤ a.length) (h2 : 0 ≤ k) (h3 : k ≤ b.length) (hx : ¬ (k = b.length ∨ i < a.length ∧ (pAt a i).1 ≤ (pAt b k).1)) (hy : i = a.length ∨ k < b.length ∧ (pAt b k).1 ≤ (pAt a i).1) (hne : i < a.length ∨ k < b.length) :
    pairsL (a.drop i.toNat) (b.drop k.toNat) = (none, some (pAt b k)) :: pairsL (a.drop i.toNat) (b.drop (k + 1).toNat) := by
  have hk : k < b.length := by omega
  rw [drop_P b k h2 hk]
  by_cases hi : i < a.length
  · rw [drop_P a i h0 hi, pairsL, if_neg (by omega), if_pos (by omega)]
  · rw [drop_P_end a i (by omega), pairsL]
def pickP (p : Option (Int × Int) × Option (Int × Int)) : Int × Int := p.2.getD (p.1.getD (0, 0))
def mergeP (a b : List (Int × Int)) : List (Int × Int) := (pairsL a b).map pickP
theorem pairsL_len (a b : List (Int × Int)) : (pairsL a b).length ≤ a.length + b.length := by
  fun_induction pairsL a b <;> simp_all <;> omega
theorem mergeP_len (a b : List (Int × Int)) : (mergeP a b).length ≤ a.length + b.length := by
  unfold mergeP; rw [List.length_map]; exact pairsL_len a b
theorem mergeP_gt (a b : List (Int × Int)) (m : Int) (ha : ∀ p ∈ a, m < p.1) (hb : ∀ p ∈ b, m < p.1) : ∀ p ∈ mergeP a b, m < p.1 := by
  unfold mergeP
  fun_induction pairsL a b with
  | case1 => simp
  | case2 x a ih => simp only [List.map_cons, List.mem_cons, forall_eq_or_imp]; exact ⟨ha x (by simp), ih (fun p hp => ha p (by simp [hp])) hb⟩
  | case3 y b ih => simp only [List.map_cons, List.mem_cons, forall_eq_or_imp]; exact ⟨hb y (by simp), ih ha (fun p hp => hb p (by simp [hp]))⟩
  | case4 x a y b h ih => simp only [List.map_cons, List.mem_cons, forall_eq_or_imp]; exact ⟨ha x (by simp), ih (fun p hp => ha p (by simp [hp])) hb⟩
  | case5 x a y b h1 h2 ih => simp only [List.map_cons, List.mem_cons, forall_eq_or_imp]; exact ⟨hb y (by simp), ih ha (fun p hp => hb p (by simp [hp]))⟩
  | case6 x a y b h1 h2 ih => simp only [List.map_cons, List.mem_cons, forall_eq_or_imp]; exact ⟨hb y (by simp), ih (fun p hp => ha p (by simp [hp])) (fun p hp => hb p (by simp [hp]))⟩
theorem mergeP_spec (a b : List (Int × Int)) (ha : Inc (keysP a)) (hb : Inc (keysP b)) : Inc (keysP (mergeP a b)) ∧ ∀ k, lookP (mergeP a b) k = (lookP b k).or (lookP a k) := by
  have key : ∀ (a b : List (Int × Int)) (z : Int × Int), (∀ p ∈ a, z.1 < p.1) → (∀ p ∈ b, z.1 < p.1) → Inc (keysP (mergeP a b)) → Inc (keysP (z :: mergeP a b)) := fun a b z h1 h2 h => Inc.cons'.2 ⟨mergeP_gt a b z.1 h1 h2, h⟩
  have hm : ∀ a b, (pairsL a b).map pickP = mergeP a b := fun _ _ => rfl
  unfold mergeP
  fun_induction pairsL a b with
  | case1 => exact ⟨by simp [Inc, keysP], fun k => rfl⟩
  | case2 x a ih =>
    obtain ⟨h1, h2⟩ := Inc.cons'.1 ha
    obtain ⟨i1, i2⟩ := ih h2 hb
    rw [List.map_cons]
    exact ⟨key a [] x h1 (by simp) i1, fun k => by
      rw [lookP_cons, show (pickP (some x, none)) = x from rfl, i2]; simp only [lookP, Option.none_or]⟩
  | case3 y b ih =>
    obtain ⟨h1, h2⟩ := Inc.cons'.1 hb
    obtain ⟨i1, i2⟩ := ih ha h2
    rw [List.map_cons]
    exact ⟨key [] b y (by simp) h1 i1, fun k => by
      rw [lookP_cons, show (pickP (none, some y)) = y from rfl, i2]; simp only [lookP, Option.or_none]⟩
  | case4 x a y b h ih =>
    obtain ⟨h1, h2⟩ := Inc.cons'.1 ha
    obtain ⟨h3, h4⟩ := Inc.cons'.1 hb
    obtain ⟨i1, i2⟩ := ih h2 hb
    rw [List.map_cons]
    refine ⟨key a (y :: b) x h1 (fun p hp => ?_) i1, fun k => ?_⟩
    · rcases List.mem_cons.1 hp with rfl | hp
      · exact h
      · exact Int.lt_trans h (h3 p hp)
    · rw [lookP_cons, show (pickP (some x, none)) = x from rfl, i2, lookP_cons y b, lookP_cons x a]
      by_cases hx : x.1 = k
      · rw [if_pos hx, if_pos hx, if_neg (by omega), lookP_gt fun p hp => by have := h3 p hp; omega]; simp
      · rw [if_neg hx, if_neg hx]
  | case5 x a y b h1 h2 ih =>
    obtain ⟨h3, h4⟩ := Inc.cons'.1 hb
    obtain ⟨h5, h6⟩ := Inc.cons'.1 ha
    obtain ⟨i1, i2⟩ := ih ha h4
    rw [List.map_cons]
    refine ⟨key (x :: a) b y (fun p hp => ?_) h3 i1, fun k => ?_⟩
    · rcases List.mem_cons.1 hp with rfl | hp
      · exact h2
      · exact Int.lt_trans h2 (h5 p hp)
    · rw [lookP_cons, show (pickP (none, some y)) = y from rfl, i2, lookP_cons y b]
      by_cases hy : y.1 = k
      · rw [if_pos hy, if_pos hy]; simp
      · rw [if_neg hy, if_neg hy]
  | case6 x a y b h1 h2 ih =>
    obtain ⟨h3, h4⟩ := Inc.cons'.1 hb
    obtain ⟨h5, h6⟩ := Inc.cons'.1 ha
    obtain ⟨i1, i2⟩ := ih h6 h4
    have he : x.1 = y.1 := by omega
    rw [List.map_cons]
    refine ⟨key a b y (fun p hp => by have := h5 p hp; omega) h3 i1, fun k => ?_⟩
    rw [lookP_cons, show (pickP (some x, some y)) = y from rfl, i2, lookP_cons y b, lookP_cons x a]
    by_cases hy : y.1 = k
    · rw [if_pos hy, if_pos hy]; simp
    · rw [if_neg hy, if_neg hy, if_neg (by omega)]
theorem mergeP_assoc {a b c : List (Int × Int)} (ha : Inc (keysP a)) (hb : Inc (keysP b)) (hc : Inc (keysP c)) : mergeP (mergeP a b) c = mergeP a (mergeP b c) := by
  obtain ⟨h1, h2⟩ := mergeP_spec a b ha hb
  obtain ⟨h3, h4⟩ := mergeP_spec b c hb hc
  obtain ⟨h5, h6⟩ := mergeP_spec _ c h1 hc
  obtain ⟨h7, h8⟩ := mergeP_spec a _ ha h3
  exact lookP_ext _ _ h5 h7 fun k => by rw [h6, h8, h2, h4, Option.or_assoc]
theorem mergeP_self {a : List (Int × Int)} (ha : Inc (keysP a)) : mergeP a a = a := by
  obtain ⟨h1, h2⟩ := mergeP_spec a a ha ha
  exact lookP_ext _ _ h1 ha fun k => by rw [h2, Option.or_self]
/-! ### the reference's Clear, Set, Merge -/
def clearP (l : List (Int × Int)) (key : Int) : List (Int × Int) := l.filter fun p => decide (p.1 ≠ key)
def setP (l : List (Int × Int)) (key value : Int) : List (Int × Int) := (clearP l key).takeWhile (fun p => decide (p.1 < key)) ++ (key, value) :: (clearP l key).dropWhile (fun p => decide (p.1 < key))
theorem clearP_len (l : List (Int × Int)) (key : Int) : (clearP l key).length ≤ l.length := List.length_filter_le _ _
theorem setP_len (l : List (Int × Int)) (key value : Int) : (setP l key value).length ≤ l.length + 1 := by
  have h := congrArg List.length (List.takeWhile_append_dropWhile (p := fun p => decide (p.1 < key)) (l := clearP l key))
  have h2 := clearP_len l key
  unfold setP
  simp only [List.length_append, List.length_cons] at h ⊢
  omega
theorem clearP_inc {l : List (Int × Int)} (h : Inc (keysP l)) (key : Int) : Inc (keysP (clearP l key)) := by
  unfold Inc keysP clearP at *
  exact List.Pairwise.sublist ((List.filter_sublist).map _) h
theorem clearP_look (l : List (Int × Int)) (key k : Int) : lookP (clearP l key) k = if k = key then none else lookP l k := by
  unfold clearP
  induction l with
  | nil => simp [lookP]
  | cons p l ih =>
    by_cases hp : p.1 = key
    · rw [List.filter_cons_of_neg (by simpa using hp), ih, lookP]
      by_cases hk : k = key
      · rw [if_pos hk, if_pos hk]
      · rw [if_neg hk, if_neg hk, if_neg (by omega)]
    · rw [List.filter_cons_of_pos (by simpa using hp), lookP, lookP, ih]
      by_cases hk : k = key
      · rw [if_neg (show ¬ p.1 = k by omega), if_pos hk, if_pos hk]
      · rw [if_neg hk, if_neg hk]
theorem drop_ge {l : List (Int × Int)} (h : Inc (keysP l)) (key : Int) : ∀ p ∈ l.dropWhile (fun p => decide (p.1 < key)), key ≤ p.1 := by
  induction l with
  | nil => simp
  | cons q l ih =>
    obtain ⟨h1, h2⟩ := Inc.cons'.1 h
    by_cases hq : q.1 < key
    · rw [List.dropWhile_cons_of_pos (by simpa using hq)]; exact ih h2
    · rw [List.dropWhile_cons_of_neg (by simpa using hq)]
      intro p hp
      rcases List.mem_cons.1 hp with rfl | hp
      · omega
      · have := h1 p hp; omega
theorem take_lt (key : Int) : ∀ (l : List (Int × Int)), ∀ p ∈ l.takeWhile (fun p => decide (p.1 < key)), p.1 < key
  | [] => by simp
  | q :: l => by
    by_cases hq : q.1 < key
    · rw [List.takeWhile_cons_of_pos (by simpa using hq)]
      intro p hp
      rcases List.mem_cons.1 hp with rfl | hp
      · exact hq
      · exact take_lt key l p hp
    · rw [List.takeWhile_cons_of_neg (by simpa using hq)]
      simp
theorem setP_inc {l : List (Int × Int)} (h : Inc (keysP l)) (key value : Int) : Inc (keysP (setP l key value)) := by
  have hc := clearP_inc h key
  have h1 := hc
  rw [← List.takeWhile_append_dropWhile (p := fun p => decide (p.1 < key)) (l := clearP l key)] at h1
  obtain ⟨i1, i2, i3⟩ := Inc.append.1 h1
  have hlt : ∀ p ∈ (clearP l key).takeWhile (fun p => decide (p.1 < key)), p.1 < key := take_lt key _
  have hgt : ∀ p ∈ (clearP l key).dropWhile (fun p => decide (p.1 < key)), key < p.1 := fun p hp => by
    have h2 := drop_ge hc key p hp
    have h3 : p ∈ clearP l key := (List.dropWhile_sublist _).subset hp
    have h4 : p.1 ≠ key := by simpa using (List.mem_filter.1 h3).2
    omega
  refine Inc.append.2 ⟨i1, Inc.cons.2 ⟨hgt, i2⟩, fun p hp q hq => ?_⟩
  rcases List.mem_cons.1 hq with rfl | hq
  · exact hlt p hp
  · exact i3 p hp q hq
theorem setP_look (l : List (Int × Int)) (key value k : Int) : lookP (setP l key value) k = if k = key then some value else lookP l k := by
  have hc : lookP ((clearP l key).takeWhile (fun p => decide (p.1 < key)) ++ (clearP l key).dropWhile (fun p => decide (p.1 < key))) k = lookP (clearP l key) k := by rw [List.takeWhile_append_dropWhile]
  unfold setP
  rw [lookP_append] at hc ⊢
  rw [clearP_look] at hc
  rw [lookP]
  by_cases hk : k = key
  · rw [if_pos hk] at hc ⊢
    rw [if_pos hk.symm]
    have : lookP ((clearP l key).takeWhile (fun p => decide (p.1 < key))) k = none := by
      cases h : lookP ((clearP l key).takeWhile (fun p => decide (p.1 < key))) k with
      | none => rfl
      | some x => rw [h] at hc; simp at hc
    rw [this]; rfl
  · rw [if_neg hk] at hc ⊢
    rw [if_neg (fun h => hk h.symm), hc]
def mergeR (a b : List (Int × Int)) : List (Int × Int) := b.foldl (fun out p => setP out p.1 p.2) a
theorem mergeR_spec : ∀ (b a : List (Int × Int)), Inc (keysP a) → Inc (keysP b) → Inc (keysP (mergeR a b)) ∧ ∀ k, lookP (mergeR a b) k = (lookP b k).or (lookP a k)
  | [], a, ha, _ => ⟨ha, fun k => rfl⟩
  | y :: b, a, ha, hb => by
    obtain ⟨h1, h2⟩ := Inc.cons'.1 hb
    obtain ⟨i1, i2⟩ := mergeR_spec b (setP a y.1 y.2) (setP_inc ha _ _) h2
    refine ⟨i1, fun k => ?_⟩
    have : mergeR a (y :: b) = mergeR (setP a y.1 y.2) b := rfl
    rw [this, i2, setP_look, lookP]
    by_cases hk : k = y.1
    · rw [if_pos hk, if_pos hk.symm, lookP_gt fun p hp => by have := h1 p hp; omega]; rfl
    · rw [if_neg hk, if_neg (fun h => hk h.symm)]
theorem mergeR_len : ∀ (b a : List (Int × Int)), (mergeR a b).length ≤ a.length + b.length
  | [], a => by simp [mergeR]
  | y :: b, a => by
    have h1 := mergeR_len b (setP a y.1 y.2)
    have h2 := setP_len a y.1 y.2
    have : mergeR a (y :: b) = mergeR (setP a y.1 y.2) b := rfl
    rw [this, List.length_cons]; omega
theorem mergeP_eq {a b : List (Int × Int)} (ha : Inc (keysP a)) (hb : Inc (keysP b)) : mergeP a b = mergeR a b := by
  obtain ⟨h1, h2⟩ := mergeP_spec a b ha hb
  obtain ⟨h3, h4⟩ := mergeR_spec b a ha hb
  exact lookP_ext _ _ h1 h3 fun k => by rw [h2, h4]
theorem getP_look : ∀ (l : List (Int × Int)) (k d : Int), getP l k d = (lookP l k).getD d
  | [], _, _ => rfl
  | (k', v) :: l, k, d => by
    rw [getP, lookP]
    split
    · rfl
    · exact getP_look l k d
/-! ### the first properties with increasing keys -/
def ordStep (out : List (Int × Int)) (p : Int × Int) : List (Int × Int) := if out.length < 60 ∧ (out.length = 0 ∨ (pAt out (out.length - 1)).1 < p.1) then out ++ [p] else out
def ordTo (l : List (Int × Int)) : Nat → List (Int × Int)
  | 0 => []
  | i + 1 => ordStep (ordTo l i) (pAt l i)
def ordP (l : List (Int × Int)) : List (Int × Int) := ordTo l l.length
theorem ordTo_spec (l : List (Int × Int)) : ∀ i, Inc (keysP (ordTo l i)) ∧ (ordTo l i).length ≤ 60
  | 0 => ⟨by simp [ordTo, Inc, keysP], by simp [ordTo]⟩
  | i + 1 => by
    obtain ⟨h1, h2⟩ := ordTo_spec l i
    rw [ordTo, ordStep]
    split
    · rename_i h
      refine ⟨Inc.append.2 ⟨h1, by simp [Inc, keysP], fun p hp q hq => ?_⟩, by simp; omega⟩
      obtain rfl : q = pAt l i := by simpa using hq
      rcases h.2 with h0 | h0
      · rw [List.length_eq_zero_iff.1 h0] at hp; cases hp
      · obtain ⟨j, hj, rfl⟩ := List.getElem_of_mem hp
        have hlast : (pAt (ordTo l i) ((ordTo l i).length - 1)).1 < (pAt l i).1 := h0
        rcases Nat.lt_or_ge j ((ordTo l i).length - 1) with hlt | hge
        · have h3 := h1.lt hlt (by rw [keysP_len]; omega)
          rw [kAt_keysP _ _ hj, kAt_keysP _ _ (by omega)] at h3
          have e1 : pAt (ordTo l i) (j : Int) = (ordTo l i)[j] := by simp [pAt, hj]
          rw [e1, show (((ordTo l i).length - 1 : Nat) : Int) = (ordTo l i).length - 1 by omega] at h3
          omega
        · have e1 : pAt (ordTo l i) ((ordTo l i).length - 1) = (ordTo l i)[j] := by
            have e2 : ((ordTo l i).length - 1 : Int).toNat = j := by omega
            unfold pAt; rw [e2]; simp [hj]
          rw [e1] at hlast; exact hlast
    · exact ⟨h1, h2⟩
theorem ordTo_full (l : List (Int × Int)) : ∀ (d i : Nat), 60 ≤ (ordTo l i).length → ordTo l (i + d) = ordTo l i
  | 0, _, _ => rfl
  | d + 1, i, h => by
    rw [← Nat.add_assoc, ordTo, ordTo_full l d i h, ordStep, if_neg (by omega)]
theorem ordP_inc (l : List (Int × Int)) : Inc (keysP (ordP l)) := (ordTo_spec l _).1
theorem ordP_len (l : List (Int × Int)) : (ordP l).length ≤ 60 := (ordTo_spec l _).2
end Go.Ob
