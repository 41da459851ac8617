import Derived.Test.YtlhjcleejolbiaaM
set_option linter.unusedVariables false
set_option linter.unusedSimpArgs false
namespace Go.Ob
open Go.Proofs
/-! ### set, clear by place -/
theorem lb_split (l : List (Int × Int)) (h : Inc (keysP l)) (key : Int) : (∀ p ∈ l.take (lbI (keysP l) key), p.1 < key) ∧ (∀ p ∈ l.drop (lbI (keysP l) key), key ≤ p.1) := by
  have e : lbI (keysP l) key = (l.takeWhile (fun p => decide (p.1 < key))).length := by
    unfold lbI keysP
    rw [List.takeWhile_map, List.length_map]
    rfl
  have e1 : l.take (lbI (keysP l) key) = l.takeWhile (fun p => decide (p.1 < key)) := by
    rw [e]
    exact (List.prefix_iff_eq_take.1 (List.takeWhile_prefix _)).symm
  have e2 : l.drop (lbI (keysP l) key) = l.dropWhile (fun p => decide (p.1 < key)) := by
    have h1 := List.takeWhile_append_dropWhile (p := fun p => decide (p.1 < key)) (l := l)
    have h2 := List.take_append_drop (lbI (keysP l) key) l
    rw [e1] at h2
    exact List.append_cancel_left (h2.trans h1.symm)
  exact ⟨by rw [e1]; exact take_lt key l, by rw [e2]; exact drop_ge h key⟩
def setB (l : List (Int × Int)) (key value : Int) : List (Int × Int) :=
  if inI (keysP l) key = true then l.set (lbI (keysP l) key) (key, value) else l.take (lbI (keysP l) key) ++ (key, value) :: l.drop (lbI (keysP l) key)
def clearB (l : List (Int × Int)) (key : Int) : List (Int × Int) :=
  if inI (keysP l) key = true then l.take (lbI (keysP l) key) ++ l.drop (lbI (keysP l) key + 1) else l
theorem in_at {l : List (Int × Int)} {key : Int} (hi : inI (keysP l) key = true) : lbI (keysP l) key < l.length ∧ (pAt l (lbI (keysP l) key)).1 = key := by
  have h := of_decide_eq_true hi
  rw [keysP_len] at h
  refine ⟨h.1, ?_⟩
  have := h.2
  rwa [kAt_keysP _ _ h.1] at this
theorem mid_inc {A B : List (Int × Int)} {key value : Int} (h : Inc (keysP (A ++ B))) (hA : ∀ p ∈ A, p.1 < key) (hB : ∀ p ∈ B, key < p.1) : Inc (keysP (A ++ (key, value) :: B)) := by
  obtain ⟨i1, i2, i3⟩ := Inc.append.1 h
  refine Inc.append.2 ⟨i1, Inc.cons.2 ⟨hB, i2⟩, fun p hp q hq => ?_⟩
  rcases List.mem_cons.1 hq with rfl | hq
  · exact hA p hp
  · exact i3 p hp q hq
theorem parts {l : List (Int × Int)} (h : Inc (keysP l)) (key : Int) : (inI (keysP l) key = true → ∃ A B v, l = A ++ (key, v) :: B ∧ A.length = lbI (keysP l) key ∧ (∀ p ∈ A, p.1 < key) ∧ ∀ p ∈ B, key < p.1) ∧
    (inI (keysP l) key = false → ∃ A B, l = A ++ B ∧ A.length = lbI (keysP l) key ∧ (∀ p ∈ A, p.1 < key) ∧ ∀ p ∈ B, key < p.1) := by
  obtain ⟨h1, h2⟩ := lb_split l h key
  have hl := lbI_le (keysP l) key
  rw [keysP_len] at hl
  constructor
  · intro hi
    obtain ⟨a, b⟩ := in_at hi
    have hd := drop_P l (lbI (keysP l) key) (by omega) (by omega)
    rw [show ((lbI (keysP l) key : Nat) : Int).toNat = lbI (keysP l) key by omega, show ((lbI (keysP l) key : Int) + 1).toNat = lbI (keysP l) key + 1 by omega] at hd
    have hl2 : l = l.take (lbI (keysP l) key) ++ pAt l (lbI (keysP l) key) :: l.drop (lbI (keysP l) key + 1) := by rw [← hd, List.take_append_drop]
    refine ⟨l.take (lbI (keysP l) key), l.drop (lbI (keysP l) key + 1), (pAt l (lbI (keysP l) key)).2, ?_, by rw [List.length_take]; omega, h1, fun p hp => ?_⟩
    · have eb : (key, (pAt l (lbI (keysP l) key)).2) = pAt l (lbI (keysP l) key) := Prod.ext b.symm rfl
      rw [eb]; exact hl2
    · rw [hl2] at h
      have := (Inc.cons'.1 (Inc.append.1 h).2.1).1 p hp
      omega
  · intro hi
    refine ⟨l.take (lbI (keysP l) key), l.drop (lbI (keysP l) key), (List.take_append_drop _ _).symm, by rw [List.length_take]; omega, h1, fun p hp => ?_⟩
    have h3 := h2 p hp
    rcases Int.lt_or_eq_of_le h3 with h | he
    · exact h
    · exfalso
      have hn := of_decide_eq_false hi
      rw [keysP_len] at hn
      obtain ⟨j, hj, rfl⟩ := List.getElem_of_mem hp
      rw [List.length_drop] at hj
      rw [List.getElem_drop] at he
      have hlt : lbI (keysP l) key < l.length := by omega
      refine hn ⟨hlt, ?_⟩
      rw [kAt_keysP _ _ hlt]
      have hge := h2 (l[lbI (keysP l) key]) (by rw [List.drop_eq_getElem_cons hlt]; exact List.mem_cons_self)
      have e1 : pAt l (lbI (keysP l) key) = l[lbI (keysP l) key] := by simp [pAt, hlt]
      rw [e1]
      rcases Nat.eq_zero_or_pos j with rfl | hj0
      · exact he.symm
      · have h5 := Inc.lt (ks := keysP l) (i := lbI (keysP l) key) (j := lbI (keysP l) key + j) (by assumption) (by omega) (by rw [keysP_len]; omega)
        rw [kAt_keysP _ _ hlt, kAt_keysP _ _ (by omega), e1] at h5
        have e2 : pAt l ((lbI (keysP l) key + j : Nat) : Int) = l[lbI (keysP l) key + j] := by
          unfold pAt
          rw [Int.toNat_natCast]
          simp [show lbI (keysP l) key + j < l.length by omega]
        rw [e2] at h5
        omega
theorem setB_eq {l : List (Int × Int)} (h : Inc (keysP l)) (key value : Int) : setB l key value = setP l key value := by
  obtain ⟨p1, p2⟩ := parts h key
  have hs := setP_inc h key value
  unfold setB
  cases hi : inI (keysP l) key with
  | true =>
    obtain ⟨A, B, v, e, ea, hA, hB⟩ := p1 hi
    rw [if_pos rfl, ← ea]
    have e1 : l.set A.length (key, value) = A ++ (key, value) :: B := by rw [e]; simp
    rw [e1]
    rw [e] at h
    obtain ⟨i1, i2, i3⟩ := Inc.append.1 h
    refine lookP_ext _ _ (mid_inc (Inc.append.2 ⟨i1, (Inc.cons.1 i2).2, fun p hp q hq => i3 p hp q (by simp [hq])⟩) hA hB) hs fun k => ?_
    rw [setP_look, e, lookP_append, lookP_append, lookP_cons, lookP_cons]
    by_cases hk : k = key
    · rw [if_pos hk, hk, lookP_none A key fun p hp => by have := hA p hp; omega]; simp
    · rw [if_neg hk, if_neg (fun h => hk h.symm), if_neg (fun h => hk h.symm)]
  | false =>
    obtain ⟨A, B, e, ea, hA, hB⟩ := p2 hi
    rw [if_neg (by simp), ← ea]
    have e1 : l.take A.length ++ (key, value) :: l.drop A.length = A ++ (key, value) :: B := by rw [e]; simp
    rw [e1]
    rw [e] at h
    refine lookP_ext _ _ (mid_inc h hA hB) hs fun k => ?_
    rw [setP_look, e, lookP_append, lookP_append, lookP_cons]
    by_cases hk : k = key
    · rw [if_pos hk, hk, lookP_none A key fun p hp => by have := hA p hp; omega]; simp
    · rw [if_neg hk, if_neg (fun h => hk h.symm)]
theorem clearB_eq {l : List (Int × Int)} (h : Inc (keysP l)) (key : Int) : clearB l key = clearP l key := by
  obtain ⟨p1, p2⟩ := parts h key
  have hs := clearP_inc h key
  unfold clearB
  cases hi : inI (keysP l) key with
  | true =>
    obtain ⟨A, B, v, e, ea, hA, hB⟩ := p1 hi
    rw [if_pos rfl, ← ea]
    have e1 : l.take A.length ++ l.drop (A.length + 1) = A ++ B := by rw [e]; simp
    rw [e1]
    rw [e] at h
    obtain ⟨i1, i2, i3⟩ := Inc.append.1 h
    refine lookP_ext _ _ (Inc.append.2 ⟨i1, (Inc.cons.1 i2).2, fun p hp q hq => i3 p hp q (by simp [hq])⟩) hs fun k => ?_
    rw [clearP_look, e, lookP_append, lookP_append, lookP_cons]
    by_cases hk : k = key
    · rw [if_pos hk, hk, lookP_none A key (fun p hp => by have := hA p hp; omega), lookP_none B key (fun p hp => by have := hB p hp; omega)]; rfl
    · rw [if_neg hk, if_neg (fun h => hk h.symm)]
  | false =>
    obtain ⟨A, B, e, ea, hA, hB⟩ := p2 hi
    rw [if_neg (by simp)]
    refine lookP_ext _ _ h hs fun k => ?_
    rw [clearP_look]
    by_cases hk : k = key
    · rw [if_pos hk, hk, e, lookP_append, lookP_none A key (fun p hp => by have := hA p hp; omega), lookP_none B key (fun p hp => by have := hB p hp; omega)]; rfl
    · rw [if_neg hk]
theorem encP_take (l : List (Int × Int)) (n : Nat) : (encP l).take n = encP (l.take n) := by simp [encP]
theorem encP_drop (l : List (Int × Int)) (n : Nat) : (encP l).drop n = encP (l.drop n) := by simp [encP]
theorem encP_append (a b : List (Int × Int)) : encP (a ++ b) = encP a ++ encP b := by simp [encP]
end Go.Ob
