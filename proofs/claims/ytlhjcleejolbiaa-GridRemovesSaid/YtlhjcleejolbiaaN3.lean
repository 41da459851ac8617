import Derived.Test.YtlhjcleejolbiaaN2
set_option linter.unusedVariables false
set_option linter.unusedSimpArgs false
namespace Go.Ob
open Go.Proofs
theorem sameN_lt {r : RowD} {f t : Int} (h : 0 ≤ sameN r f t) : sameN r f t < r.cells.length := by
  rcases firstIdx_spec (fun k => decide ((sAt (spansR r) k).1 = f ∧ (sAt (spansR r) k).2 = t ∧ (sAt (spansR r) k).1 < (sAt (spansR r) k).2)) r.cells.length with ⟨a, _⟩ | ⟨_, b, _, _⟩
  · have : sameN r f t = -1 := a
    omega
  · exact b
theorem csB_val {rs : List RowD} {i k : Int} (h : Val rs i k) : csB rs (spN rs i k) i = contB rs i k := by
  unfold csB
  rw [sameN_val h]
  simp [h.2.2.1]
theorem topN_step {rs : List RowD} {s : Int × Int} {i : Int} (h : 1 ≤ i) (hc : csB rs s i = true) : topN rs s i.toNat = topN rs s (i - 1).toNat := by
  obtain ⟨n, hn⟩ : ∃ n : Nat, i = n + 1 := ⟨(i - 1).toNat, by omega⟩
  subst hn
  rw [show ((n : Int) + 1).toNat = n + 1 by omega, show ((n : Int) + 1 - 1).toNat = n by omega, topN, if_pos (by simpa using hc)]
theorem topN_stop {rs : List RowD} {s : Int × Int} {i : Int} (h : 0 ≤ i) (hc : csB rs s i = false) : topN rs s i.toNat = i.toNat := by
  rcases Int.lt_or_eq_of_le h with hl | hl
  · obtain ⟨n, hn⟩ : ∃ n : Nat, i = n + 1 := ⟨(i - 1).toNat, by omega⟩
    subst hn
    have hc' : csB rs s ((n + 1 : Nat) : Int) = false := by simpa using hc
    rw [show ((n : Int) + 1).toNat = n + 1 by omega, topN, hc', if_neg (by simp)]
  · subst hl; rfl
theorem contB_zero (rs : List RowD) (k : Int) : contB rs 0 k = false := by simp [contB]
theorem botN_step {rs : List RowD} {s : Int × Int} {b : Int} (h0 : 0 ≤ b) (h : b < rs.length) (hc : csB rs s b = true) : botN rs s b.toNat (rs.length - b.toNat) = botN rs s (b + 1).toNat (rs.length - (b + 1).toNat) := by
  rw [show rs.length - b.toNat = (rs.length - (b + 1).toNat) + 1 by omega, botN, show ((b.toNat : Nat) : Int) = b by omega, if_pos hc, show (b + 1).toNat = b.toNat + 1 by omega]
theorem botN_stop {rs : List RowD} {s : Int × Int} {b : Int} (h0 : 0 ≤ b) (hc : csB rs s b = false ∨ (rs.length : Int) ≤ b) : botN rs s b.toNat (rs.length - b.toNat) = b.toNat := by
  rcases hc with hc | hc
  · generalize rs.length - b.toNat = d
    cases d with
    | zero => rfl
    | succ d => rw [botN, show ((b.toNat : Nat) : Int) = b by omega, hc, if_neg (by simp)]
  · rw [show rs.length - b.toNat = 0 by omega]; rfl
def atV (rs : List RowD) (i c : Int) : Int := if 0 ≤ i ∧ i < rs.length ∧ 0 ≤ c ∧ c < 32 then (if 0 ≤ atN (rAt rs i) c then atN (rAt rs i) c else 0) else 0
def atE (rs : List RowD) (i c : Int) : Int := if 0 ≤ i ∧ i < rs.length ∧ 0 ≤ c ∧ c < 32 then (if 0 ≤ atN (rAt rs i) c then 0 else 8) else 2
theorem place_val {rs : List RowD} {i k : Int} : Val rs i k ↔ existsN rs i k ∧ (spN rs i k).1 ≠ (spN rs i k).2 := by
  unfold Val existsN ncN
  constructor
  · rintro ⟨a, b, c, d, e⟩; exact ⟨⟨a, b, c, d⟩, e⟩
  · rintro ⟨⟨a, b, c, d⟩, e⟩; exact ⟨a, b, c, d, e⟩
theorem look_of {rs : List RowD} {i k : Int} (h : Val rs i k) : ∃ n, look (layOf rs) (i, k) = some n ∧ 0 ≤ n ∧ n < (layRects rs).length ∧ qAt (layRects rs) n = rectN rs i k := by
  have hf := lay_final rs
  obtain ⟨n, a, b, c, d⟩ := hf.A i k h (seen_all h)
  exact ⟨n, a, b, c, rect_eq (hf.C n b c) h d⟩
theorem look_not {rs : List RowD} {i k : Int} (h : ¬ Val rs i k) : look (layOf rs) (i, k) = none := (lay_final rs).B i k fun ⟨a, _⟩ => h a
/-! ### the rectangles in order -/
def cntN (rs : List RowD) (i k : Int) : Int := ((startsR rs i.toNat ++ startsC rs i.toNat k.toNat).length : Int)
theorem cntN_step (rs : List RowD) (i k : Int) (h0 : 0 ≤ i) (h : 0 ≤ k) : cntN rs i (k + 1) = if stB rs i k = true then cntN rs i k + 1 else cntN rs i k := by
  unfold cntN
  rw [show (k + 1).toNat = k.toNat + 1 by omega, startsC, show ((k.toNat : Nat) : Int) = k by omega, show ((i.toNat : Nat) : Int) = i by omega]
  split <;> simp <;> omega
theorem cntN_row (rs : List RowD) (i : Int) (h : 0 ≤ i) : cntN rs i (ncN rs i) = cntN rs (i + 1) 0 := by
  unfold cntN
  rw [show (i + 1).toNat = i.toNat + 1 by omega, startsR, show ((i.toNat : Nat) : Int) = i by omega]
  simp [startsC]
theorem starts_prefix (rs : List RowD) (i : Nat) : ∀ (d : Nat), startsR rs i <+: startsR rs (i + d)
  | 0 => List.prefix_refl _
  | d + 1 => (starts_prefix rs i d).trans (by rw [← Nat.add_assoc, startsR]; exact List.prefix_append _ _)
theorem startsC_prefix (rs : List RowD) (i k : Nat) : ∀ (d : Nat), startsC rs i k <+: startsC rs i (k + d)
  | 0 => List.prefix_refl _
  | d + 1 => (startsC_prefix rs i k d).trans (by rw [← Nat.add_assoc, startsC]; exact List.prefix_append _ _)
theorem rects_len (rs : List RowD) : ((layRects rs).length : Int) = cntN rs rs.length 0 := by
  have h := congrArg List.length (lay_final rs).D
  rw [List.length_map] at h
  unfold cntN
  rw [show ((rs.length : Int)).toNat = rs.length by omega]
  exact congrArg _ h
theorem rects_at {rs : List RowD} {i k : Int} (h : existsN rs i k) (hs : stB rs i k = true) : 0 ≤ cntN rs i k ∧ cntN rs i k < (layRects rs).length ∧ qAt (layRects rs) (cntN rs i k) = rectN rs i k ∧ (spN rs i k).1 ≠ (spN rs i k).2 := by
  obtain ⟨h0, h1, h2, h3⟩ := h
  have hD := (lay_final rs).D
  simp only [startsC, List.append_nil] at hD
  have hsub : startsR rs i.toNat ++ startsC rs i.toNat (k.toNat + 1) <+: startsR rs rs.length := by
    refine List.IsPrefix.trans ?_ ((starts_prefix rs (i.toNat + 1) (rs.length - (i.toNat + 1))).trans (by rw [show i.toNat + 1 + (rs.length - (i.toNat + 1)) = rs.length by omega]; exact List.prefix_refl _))
    rw [startsR]
    refine (List.prefix_append_right_inj _).2 ?_
    have hn : k.toNat + 1 ≤ ncN rs (i.toNat : Int) := by unfold ncN; rw [show ((i.toNat : Nat) : Int) = i by omega]; omega
    have := startsC_prefix rs i.toNat (k.toNat + 1) (ncN rs (i.toNat : Int) - (k.toNat + 1))
    rwa [show k.toNat + 1 + (ncN rs (i.toNat : Int) - (k.toNat + 1)) = ncN rs (i.toNat : Int) by omega] at this
  rw [startsC, show ((k.toNat : Nat) : Int) = k by omega, show ((i.toNat : Nat) : Int) = i by omega, if_pos hs, ← List.append_assoc] at hsub
  obtain ⟨tl, htl⟩ := hsub
  have hc : (cntN rs i k).toNat = (startsR rs i.toNat ++ startsC rs i.toNat k.toNat).length := by unfold cntN; omega
  have hne : (spN rs i k).1 ≠ (spN rs i k).2 := by
    unfold stB at hs
    rw [Bool.and_eq_true, decide_eq_true_eq] at hs
    exact hs.1
  have hv : Val rs i k := place_val.2 ⟨⟨h0, h1, h2, h3⟩, hne⟩
  have hlen : (cntN rs i k).toNat < (layRects rs).length := by
    have e1 := congrArg List.length hD
    have e2 := congrArg List.length htl
    rw [List.length_map] at e1
    simp only [List.length_append, List.length_cons, List.length_nil] at e2 hc
    omega
  have hpos : 0 ≤ cntN rs i k := by unfold cntN; omega
  have hget : ((layRects rs).map (fun q => (q.row, q.cell)))[(cntN rs i k).toNat]? = some (i, k) := by
    rw [hD, ← htl, hc]
    simp
  have hq : qAt (layRects rs) (cntN rs i k) = (layRects rs)[(cntN rs i k).toNat] := by simp [qAt, hlen]
  have hrc : (qAt (layRects rs) (cntN rs i k)).row = i ∧ (qAt (layRects rs) (cntN rs i k)).cell = k := by
    rw [List.getElem?_map, List.getElem?_eq_getElem hlen] at hget
    simp only [Option.map_some, Option.some.injEq, Prod.mk.injEq] at hget
    rw [hq]; exact hget
  have r := (lay_final rs).C _ hpos (by show _ < ((layRects rs).length : Int); omega)
  refine ⟨hpos, by omega, rect_eq r hv ?_, hne⟩
  refine ⟨?_, by rw [hrc.1]; exact Int.le_refl _, ?_⟩
  · have := r.sp
    rw [hrc.1, hrc.2] at this
    exact this.symm
  · have := r.rb
    rw [hrc.1] at this
    exact this
theorem st_iff {rs : List RowD} {i k : Int} (h : existsN rs i k) : (placeE rs i k ≠ 0 ∨ (placeR rs i k).row ≠ i) ↔ stB rs i k = false := by
  unfold placeE placeR stB
  rw [if_neg (by simpa using h)]
  by_cases hs : (spN rs i k).1 = (spN rs i k).2
  · rw [if_pos hs]; simp [hs]
  · have hv : Val rs i k := place_val.2 ⟨h, hs⟩
    rw [if_neg hs, if_pos ⟨h, hs⟩]
    simp only [rectN]
    have ht := topN_spec rs (spN rs i k) i.toNat (by have := h.1; have := h.2.1; omega)
    have hi : ((i.toNat : Nat) : Int) = i := by have := h.1; omega
    rw [hi] at ht
    cases hc : contB rs i k with
    | true =>
      have hcs := (contB_iff hv).1 hc
      simp only [hs, ne_eq, not_false_eq_true, decide_true, Bool.not_true, Bool.and_false, iff_true]
      refine .inr fun e => ht.2.2 ?_
      rw [e]; exact hcs
    | false =>
      have hcs : ¬ CS rs (spN rs i k) i := fun e => by rw [(contB_iff hv).2 e] at hc; cases hc
      simp only [hs, ne_eq, not_false_eq_true, decide_true, Bool.not_false, Bool.and_true, not_true_eq_false, false_or, iff_false, Decidable.not_not, reduceCtorEq]
      rcases Int.lt_or_eq_of_le (show (topN rs (spN rs i k) i.toNat : Int) ≤ i by omega) with hl | hl
      · exact absurd (ht.2.1 i hl (Int.le_refl _)) hcs
      · exact hl
end Go.Ob
