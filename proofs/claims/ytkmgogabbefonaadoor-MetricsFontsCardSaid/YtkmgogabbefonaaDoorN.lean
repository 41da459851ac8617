import Derived.Test.YtkmgogabbefonaaDoorK5
import Derived.Test.YtkmgogabbefonaaDoorM
set_option linter.unusedVariables false
set_option linter.unusedSimpArgs false
namespace Go.Ob
open Go.Proofs
/-! ### clusters of a list of classes -/
def stL (c : List Int) : Nat → MS
  | 0 => m0
  | k + 1 => stepM (stL c k) (iAt c k)
def bAt (c : List Int) (k : Nat) : Bool := bd (stL c k).before (iAt c k) (stL c k).picd (stL c k).reg
theorem st_before (c : List Int) (k : Nat) : (stL c (k + 1)).before = iAt c k := rfl
theorem st_pic (c : List Int) (k : Nat) : (stL c (k + 1)).pic = decide (iAt c k = 14 ∨ iAt c k = 4 ∧ (stL c k).pic = true) := rfl
theorem st_picd (c : List Int) (k : Nat) : (stL c (k + 1)).picd = decide (iAt c k = 5 ∧ (stL c k).pic = true) := rfl
theorem st_reg (c : List Int) (k : Nat) : (stL c (k + 1)).reg = if iAt c k = 13 then (stL c k).reg + 1 else 0 := rfl
theorem st_reg_range (c : List Int) : ∀ k, 0 ≤ (stL c k).reg ∧ (stL c k).reg ≤ k
  | 0 => ⟨Int.le_refl _, Int.le_refl _⟩
  | k + 1 => by
    have := st_reg_range c k
    rw [st_reg]; split <;> omega
/-- Is there a boundary ahead of unit k (0 < k)? -/
def Bk (c : List Int) (k : Nat) : Prop := 1 ≤ k ∧ bAt c k = true
instance (c : List Int) (k : Nat) : Decidable (Bk c k) := by unfold Bk; infer_instance
def lastB (c : List Int) : Nat → Nat
  | 0 => 0
  | k + 1 => if Bk c k then k else lastB c k
def cTo (c : List Int) : Nat → List (Nat × Nat)
  | 0 => []
  | k + 1 => if Bk c k then cTo c k ++ [(lastB c k, k)] else cTo c k
def cAll (c : List Int) : List (Nat × Nat) := cTo c c.length ++ (if c.length > 0 then [(lastB c c.length, c.length)] else [])
def ends (l : List (Nat × Nat)) : List Int := 0 :: l.map fun p => (p.2 : Int)
def bnds (c : List Int) : List Int := ends (cAll c)
theorem ends_len (l : List (Nat × Nat)) : (ends l).length = l.length + 1 := by simp [ends]
theorem ends_snoc (l : List (Nat × Nat)) (p : Nat × Nat) : ends (l ++ [p]) = ends l ++ [(p.2 : Int)] := by simp [ends]
theorem lastB_le (c : List Int) : ∀ k, lastB c k ≤ k
  | 0 => Nat.le_refl _
  | k + 1 => by have := lastB_le c k; rw [lastB]; split <;> omega
theorem lastB_lt (c : List Int) (k : Nat) (h : 1 ≤ k) : lastB c k < k := by
  obtain ⟨m, rfl⟩ : ∃ m, k = m + 1 := ⟨k - 1, by omega⟩
  have := lastB_le c m
  rw [lastB]; split <;> omega
theorem cTo_succ (c : List Int) (k : Nat) : cTo c (k + 1) = if Bk c k then cTo c k ++ [(lastB c k, k)] else cTo c k := rfl
theorem cTo_len_le (c : List Int) : ∀ k, (cTo c k).length ≤ k
  | 0 => Nat.le_refl _
  | k + 1 => by have := cTo_len_le c k; rw [cTo]; split <;> simp <;> omega
theorem cTo_prefix (c : List Int) (k : Nat) : ∀ d, cTo c k <+: cTo c (k + d)
  | 0 => List.prefix_refl _
  | d + 1 => by
    refine (cTo_prefix c k d).trans ?_
    rw [← Nat.add_assoc, cTo]
    split
    · exact List.prefix_append _ _
    · exact List.prefix_refl _
theorem cTo_all (c : List Int) (k : Nat) (h : k ≤ c.length) : cTo c k <+: cAll c := by
  have := cTo_prefix c k (c.length - k)
  rw [show k + (c.length - k) = c.length by omega] at this
  exact this.trans (List.prefix_append _ _)
theorem cAll_get (c : List Int) (k : Nat) (h : k < c.length) (hb : Bk c k) : (cAll c)[(cTo c k).length]? = some (lastB c k, k) := by
  obtain ⟨t, ht⟩ := cTo_all c (k + 1) (by omega)
  rw [← ht, cTo, if_pos hb, List.append_assoc, List.getElem?_append_right (Nat.le_refl _)]
  simp
theorem cAll_last (c : List Int) (h : 0 < c.length) : (cAll c)[(cTo c c.length).length]? = some (lastB c c.length, c.length) ∧ (cAll c).length = (cTo c c.length).length + 1 := by
  unfold cAll
  rw [if_pos h, List.getElem?_append_right (Nat.le_refl _)]
  simp
theorem cAll_nil (c : List Int) (h : c.length = 0) : cAll c = [] := by
  have : c = [] := List.eq_nil_of_length_eq_zero h
  subst this; rfl
/-! ### the reference's ways to see what lies before -/
theorem joined_end {c : List Int} {at_ : Nat} {i : Int} (h1 : 1 ≤ at_) (hi0 : -1 ≤ i) (hi1 : i ≤ (at_ : Int) - 2) (hp : (stL c (at_ - 1)).pic = (stL c (i + 1).toNat).pic) (hs : ¬ (i ≥ 0 ∧ iAt c i = 4)) :
    (stL c at_).picd = decide (iAt c ((at_ : Int) - 1) = 5 ∧ i ≥ 0 ∧ iAt c i = 14) := by
  obtain ⟨m, rfl⟩ : ∃ m, at_ = m + 1 := ⟨at_ - 1, by omega⟩
  rw [st_picd, show (((m + 1 : Nat) : Int) - 1) = (m : Int) by omega]
  rw [show m + 1 - 1 = m by omega] at hp
  rw [hp]
  rcases Int.lt_or_le i 0 with h | h
  · rw [show (i + 1).toNat = 0 by omega]
    simp only [stL, m0, Bool.false_eq_true, and_false, decide_false]
    exact (decide_eq_false (by omega)).symm
  · rw [show (i + 1).toNat = i.toNat + 1 by omega, st_pic, show ((i.toNat : Nat) : Int) = i by omega]
    rw [decide_eq_decide, decide_eq_true_eq]
    omega
theorem joined_step {c : List Int} {at_ : Nat} {i : Int} (hi0 : 0 ≤ i) (hp : (stL c (at_ - 1)).pic = (stL c (i + 1).toNat).pic) (hs : iAt c i = 4) : (stL c (at_ - 1)).pic = (stL c (i - 1 + 1).toNat).pic := by
  rw [hp, show (i + 1).toNat = i.toNat + 1 by omega, st_pic, show ((i.toNat : Nat) : Int) = i by omega, hs, show (i - 1 + 1).toNat = i.toNat by omega]
  cases (stL c i.toNat).pic <;> simp
theorem reg_step {c : List Int} {at_ : Nat} {n : Int} (h0 : 0 ≤ n) (h1 : n < at_) (hp : (stL c at_).reg = n + (stL c ((at_ : Int) - n).toNat).reg) (hs : iAt c ((at_ : Int) - 1 - n) = 13) :
    (stL c at_).reg = n + 1 + (stL c ((at_ : Int) - (n + 1)).toNat).reg := by
  rw [hp, show ((at_ : Int) - n).toNat = ((at_ : Int) - (n + 1)).toNat + 1 by omega, st_reg, show ((((at_ : Int) - (n + 1)).toNat : Nat) : Int) = (at_ : Int) - 1 - n by omega, if_pos hs]
  omega
theorem reg_end {c : List Int} {at_ : Nat} {n : Int} (h0 : 0 ≤ n) (h1 : n ≤ at_) (hp : (stL c at_).reg = n + (stL c ((at_ : Int) - n).toNat).reg) (hs : ¬ (n < at_ ∧ iAt c ((at_ : Int) - 1 - n) = 13)) : (stL c at_).reg = n := by
  rcases Int.lt_or_eq_of_le h1 with h | h
  · rw [hp, show ((at_ : Int) - n).toNat = ((at_ : Int) - (n + 1)).toNat + 1 by omega, st_reg, show ((((at_ : Int) - (n + 1)).toNat : Nat) : Int) = (at_ : Int) - 1 - n by omega, if_neg (fun e => hs ⟨h, e⟩)]
    omega
  · rw [hp, show ((at_ : Int) - n).toNat = 0 by omega]
    simp [stL, m0]
/-! ### the clusters of a string -/
def cls (s : ByteArray) : List Int := (pts s).map classP
theorem cls_len (s : ByteArray) : (cls s).length = nR s := by simp [cls, pts_len]
theorem iAt_map (l : List Int) (f : Int → Int) (i : Int) (h0 : 0 ≤ i) (h1 : i < l.length) : iAt (l.map f) i = f (iAt l i) := by
  have : i.toNat < l.length := by omega
  simp [iAt, this]
theorem iAt_pts (s : ByteArray) (k : Nat) (h : k < nR s) : iAt (pts s) k = ptN s k := by
  simp [iAt, pts, ptsTo, h]
theorem iAt_cls (s : ByteArray) (k : Nat) (h : k < nR s) : iAt (cls s) k = classP (ptN s k) := by
  unfold cls
  rw [iAt_map _ _ _ (by omega) (by rw [pts_len]; omega), iAt_pts s k h]
def subS (s : ByteArray) (p : Nat × Nat) : ByteArray := s.extract (rpos s p.1) (rpos s p.2)
def cluR (s : ByteArray) (p : Nat × Nat) : List D := [.agg [.v (.int .i64 p.1), .v (.int .i64 p.2)], .v (.string (subS s p))]
def encCl (s : ByteArray) : List (List D) := (cAll (cls s)).map (cluR s)
theorem encCl_len (s : ByteArray) : (encCl s).length = (cAll (cls s)).length := by simp [encCl]
theorem encCl_get (s : ByteArray) {n : Nat} {p : Nat × Nat} (h : (cAll (cls s))[n]? = some p) : (encCl s)[n]? = some (cluR s p) := by simp [encCl, h]
theorem encCl_mem (s : ByteArray) {n : Nat} {x : List D} (h : (encCl s)[n]? = some x) : ∃ p, (cAll (cls s))[n]? = some p ∧ x = cluR s p := by
  unfold encCl at h
  rw [List.getElem?_map, Option.map_eq_some_iff] at h
  obtain ⟨p, hp, rfl⟩ := h
  exact ⟨p, hp, rfl⟩
theorem cAll_len_le (c : List Int) : (cAll c).length ≤ c.length + 1 := by
  have := cTo_len_le c c.length
  unfold cAll
  split <;> simp <;> omega
end Go.Ob
