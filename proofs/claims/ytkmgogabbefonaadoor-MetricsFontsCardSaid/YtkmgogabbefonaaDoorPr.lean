import Derived.Test.YtkmgogabbefonaaDoorObV
import Derived.Test.YtkmgogabbefonaaDoorTy
set_option linter.unusedVariables false
set_option linter.unusedSimpArgs false
namespace Go.Ob
open Go.Proofs
/-! ### classes of code points -/
abbrev Span := Int × Int × Int
def encS (l : List Span) : List (List D) := l.map fun e => [.v (.int .i64 e.1), .v (.int .i64 e.2.1), .v (.int .i64 e.2.2)]
def sAt (l : List Span) (i : Int) : Span := l.getD i.toNat (0, 0, 0)
theorem encS_len (l : List Span) : (encS l).length = l.length := by simp [encS]
theorem encS_get (l : List Span) (i : Int) (h0 : 0 ≤ i) (h1 : i < l.length) : (encS l)[i.toNat]? = some [.v (.int .i64 (sAt l i).1), .v (.int .i64 (sAt l i).2.1), .v (.int .i64 (sAt l i).2.2)] := by
  have : i.toNat < l.length := by omega
  simp [encS, sAt, this]
def inS (e : Span) (p : Int) : Bool := decide (e.1 ≤ p ∧ p ≤ e.2.1)
def clsIn : List Span → Int → Int
  | [], _ => 0
  | e :: l, p => if inS e p = true then e.2.2 else clsIn l p
theorem clsIn_drop (l : List Span) (i : Int) (p : Int) (h0 : 0 ≤ i) (h1 : i < l.length) : clsIn (l.drop i.toNat) p = if (sAt l i).1 ≤ p ∧ p ≤ (sAt l i).2.1 then (sAt l i).2.2 else clsIn (l.drop (i + 1).toNat) p := by
  have hl : i.toNat < l.length := by omega
  rw [List.drop_eq_getElem_cons hl, show (i + 1).toNat = i.toNat + 1 by omega]
  simp [clsIn, sAt, hl, inS]
theorem clsIn_append (l m : List Span) (p : Int) (h : ∀ e ∈ l, e.2.2 ≠ 0) : clsIn (l ++ m) p = if clsIn l p ≠ 0 then clsIn l p else clsIn m p := by
  induction l with
  | nil => simp [clsIn]
  | cons e l ih =>
    have ih := ih (fun x hx => h x (by simp [hx]))
    have he := h e (by simp)
    rw [List.cons_append]
    by_cases hi : inS e p = true
    · have e1 : ∀ k, clsIn (e :: k) p = e.2.2 := fun k => by rw [clsIn, if_pos hi]
      rw [e1, e1, if_pos he]
    · have e1 : ∀ k, clsIn (e :: k) p = clsIn k p := fun k => by rw [clsIn, if_neg hi]
      rw [e1, e1, ih]
/-- in increasing order, apart -/
def Apart (l : List Span) : Prop := l.Pairwise (fun a b => a.2.1 < b.1) ∧ ∀ e ∈ l, e.1 ≤ e.2.1
theorem clsIn_zero {l : List Span} {p : Int} (h : ∀ e ∈ l, inS e p = false) : clsIn l p = 0 := by
  induction l with
  | nil => rfl
  | cons e l ih => rw [clsIn, h e (by simp), if_neg (by simp), ih (fun x hx => h x (by simp [hx]))]
theorem clsIn_mem {l : List Span} {p : Int} {e : Span} (he : e ∈ l) (hi : inS e p = true) (hu : ∀ x ∈ l, inS x p = true → x = e) : clsIn l p = e.2.2 := by
  induction l with
  | nil => cases he
  | cons a l ih =>
    rw [clsIn]
    by_cases ha : inS a p = true
    · rw [if_pos ha, hu a (by simp) ha]
    · rw [if_neg ha]
      rcases List.mem_cons.1 he with rfl | he
      · exact absurd hi ha
      · exact ih he (fun x hx => hu x (by simp [hx]))
theorem Apart.unique {l : List Span} (h : Apart l) {p : Int} {a b : Span} (ha : a ∈ l) (hb : b ∈ l) (h1 : inS a p = true) (h2 : inS b p = true) : a = b := by
  induction l with
  | nil => cases ha
  | cons e l ih =>
    obtain ⟨hp, hr⟩ := h
    obtain ⟨hp1, hp2⟩ := List.pairwise_cons.1 hp
    unfold inS at h1 h2
    have k1 := of_decide_eq_true h1
    have k2 := of_decide_eq_true h2
    rcases List.mem_cons.1 ha with ha' | ha' <;> rcases List.mem_cons.1 hb with hb' | hb'
    · rw [ha', hb']
    · have := hp1 b hb'; rw [ha'] at k1; omega
    · have := hp1 a ha'; rw [hb'] at k2; omega
    · exact ih ⟨hp2, fun x hx => hr x (by simp [hx])⟩ ha' hb'
theorem clsIn_perm {l m : List Span} (h : Apart l) (h1 : ∀ e ∈ l, e ∈ m) (h2 : ∀ e ∈ m, e ∈ l) (p : Int) : clsIn m p = clsIn l p := by
  by_cases he : ∃ e ∈ l, inS e p = true
  · obtain ⟨e, he, hi⟩ := he
    rw [clsIn_mem he hi (fun x hx hxi => h.unique hx he hxi hi), clsIn_mem (h1 e he) hi (fun x hx hxi => h.unique (h2 x hx) he hxi hi)]
  · have hz : ∀ e ∈ l, inS e p = false := fun e hel => by
      cases hc : inS e p with
      | false => rfl
      | true => exact absurd ⟨e, hel, hc⟩ he
    rw [clsIn_zero hz, clsIn_zero (fun e hm => hz e (h2 e hm))]
/-- the first range that does not end before p -/
def hiI (l : List Span) (p : Int) : Nat := (l.takeWhile fun e => decide (e.2.1 < p)).length
theorem hiI_le (l : List Span) (p : Int) : hiI l p ≤ l.length := (List.takeWhile_prefix _).length_le
theorem hiI_cons (e : Span) (l : List Span) (p : Int) : hiI (e :: l) p = if e.2.1 < p then hiI l p + 1 else 0 := by
  unfold hiI
  by_cases h : e.2.1 < p <;> simp [h]
theorem sAt_cons (e : Span) (l : List Span) (i : Int) (h : 0 < i) : sAt (e :: l) i = sAt l (i - 1) := by
  unfold sAt
  rw [show i.toNat = (i - 1).toNat + 1 by omega, List.getD_cons_succ]
theorem sAt_get (l : List Span) (i : Int) (h0 : 0 ≤ i) (h : i < l.length) : sAt l i = l[i.toNat]'(by omega) := by
  unfold sAt
  simp [show i.toNat < l.length by omega]
theorem hiI_lo (l : List Span) (p : Int) (i : Int) (h0 : 0 ≤ i) (h : i < hiI l p) : (sAt l i).2.1 < p := by
  induction l generalizing i with
  | nil => simp [hiI] at h; omega
  | cons e l ih =>
    rw [hiI_cons] at h
    by_cases he : e.2.1 < p
    · rw [if_pos he] at h
      by_cases hz : i = 0
      · subst hz; exact he
      · rw [sAt_cons _ _ _ (by omega)]; exact ih (i - 1) (by omega) (by omega)
    · rw [if_neg he] at h; omega
theorem hiI_hi {l : List Span} (ha : Apart l) (p : Int) (i : Int) (h0 : (hiI l p : Int) ≤ i) (h : i < l.length) : p ≤ (sAt l i).2.1 := by
  induction l generalizing i with
  | nil => simp at h; omega
  | cons e l ih =>
    obtain ⟨hp, hr⟩ := ha
    obtain ⟨hp1, hp2⟩ := List.pairwise_cons.1 hp
    by_cases he : e.2.1 < p
    · have e1 : hiI (e :: l) p = hiI l p + 1 := by simp [hiI, he]
      rw [e1] at h0
      have := ih ⟨hp2, fun x hx => hr x (by simp [hx])⟩ (i - 1) (by omega) (by simp at h; omega)
      have e2 : sAt (e :: l) i = sAt l (i - 1) := by
        unfold sAt
        rw [show i.toNat = (i - 1).toNat + 1 by omega, List.getD_cons_succ]
      rwa [e2]
    · by_cases hz : i = 0
      · subst hz; simp [sAt]; omega
      · have hi : (i - 1).toNat < l.length := by simp at h; omega
        have hm := hp1 l[(i - 1).toNat] (List.getElem_mem hi)
        have hm2 := hr l[(i - 1).toNat] (by simp)
        have e2 : sAt (e :: l) i = l[(i - 1).toNat] := by
          rw [sAt_cons _ _ _ (by omega), sAt_get _ _ (by omega) (by simp at h; omega)]
        rw [e2]; omega
theorem clsIn_hi {l : List Span} (ha : Apart l) (p : Int) : clsIn l p = if (hiI l p : Int) < l.length ∧ (sAt l (hiI l p)).1 ≤ p then (sAt l (hiI l p)).2.2 else 0 := by
  have hle := hiI_le l p
  split
  · rename_i h
    have h1 := hiI_hi ha p (hiI l p) (Int.le_refl _) h.1
    have hm : sAt l (hiI l p) ∈ l := by
      have : hiI l p < l.length := by omega
      simp [sAt, this]
    exact clsIn_mem hm (decide_eq_true ⟨h.2, h1⟩) (fun x hx hxi => ha.unique hx hm hxi (decide_eq_true ⟨h.2, h1⟩))
  · rename_i h
    refine clsIn_zero fun e he => ?_
    obtain ⟨n, hn, rfl⟩ := List.getElem_of_mem he
    have e2 : sAt l (n : Int) = l[n] := by simp [sAt, hn]
    refine decide_eq_false fun ⟨k1, k2⟩ => ?_
    rcases Int.lt_or_le (n : Int) (hiI l p) with hlt | hge
    · have := hiI_lo l p n (by omega) hlt
      rw [e2] at this; omega
    · rcases Int.lt_or_eq_of_le hge with hgt | heq
      · -- behind the first one: it begins behind its end
        have hpw := List.pairwise_iff_getElem.1 ha.1 (hiI l p) n (by omega) hn (by omega)
        have h1 := hiI_hi ha p (hiI l p) (Int.le_refl _) (by omega)
        have e3 : sAt l (hiI l p) = l[hiI l p]'(by omega) := by
          have : hiI l p < l.length := by omega
          simp [sAt, this]
        rw [e3] at h1; omega
      · apply h
        rw [heq, e2]
        exact ⟨by omega, k1⟩
def tabG : List Span := [(0, 9, 3), (10, 10, 2), (11, 12, 3), (13, 13, 1), (14, 31, 3), (127, 159, 3), (169, 169, 14), (173, 173, 3), (174, 174, 14), (768, 879, 4), (1155, 1161, 4), (1425, 1469, 4), (1471, 1471, 4), (1473, 1474, 4), (1476, 1477, 4), (1479, 1479, 4), (1536, 1541, 6), (1552, 1562, 4), (1611, 1631, 4), (1648, 1648, 4), (1750, 1756, 4), (1757, 1757, 6), (1759, 1764, 4), (1767, 1768, 4), (1770, 1773, 4), (1807, 1807, 6), (2274, 2274, 6), (2307, 2307, 7), (2362, 2362, 4), (2363, 2363, 7), (2364, 2364, 4), (2366, 2368, 7), (2369, 2376, 4), (2377, 2380, 7), (2381, 2381, 4), (2382, 2383, 7), (3633, 3633, 4), (3635, 3635, 7), (3636, 3642, 4), (3655, 3662, 4), (3763, 3763, 7), (4352, 4447, 8), (4448, 4519, 9), (4520, 4607, 10), (6832, 6911, 4), (7616, 7679, 4), (8203, 8203, 3), (8204, 8204, 4), (8205, 8205, 5), (8206, 8207, 3), (8232, 8238, 3), (8252, 8252, 14), (8265, 8265, 14), (8288, 8303, 3), (8400, 8447, 4), (8482, 8482, 14), (8505, 8505, 14), (8596, 8601, 14), (8617, 8618, 14), (8986, 8987, 14), (9193, 9203, 14), (9728, 9732, 14), (9748, 9749, 14), (9786, 9786, 14), (9800, 9811, 14), (9989, 9989, 14), (9992, 9997, 14), (10024, 10024, 14), (10084, 10084, 14), (10133, 10135, 14), (11088, 11088, 14), (12330, 12335, 4), (12441, 12442, 4), (43360, 43388, 8), (55216, 55238, 9), (55243, 55291, 10), (65024, 65039, 4), (65056, 65071, 4), (65279, 65279, 3), (65520, 65531, 3), (69821, 69821, 6), (126976, 127231, 14), (127462, 127487, 13), (127744, 127994, 14), (127995, 127999, 4), (128000, 128591, 14), (128640, 128767, 14), (129280, 129535, 14), (129648, 129791, 14), (917504, 917535, 3), (917536, 917631, 4), (917632, 917759, 3), (917760, 917999, 4), (918000, 921599, 3)]
set_option maxRecDepth 100000 in
theorem table_spec  : Fun Tryd.prog 52 [] (.sl 3 (encS tabG)) := by
  refine Fun.enter (n := 96) (rs := [.tmp 0]) Tryd.func52 rfl Tryd.ntmps52 Tryd.results52 rfl (fun w F => ?_)
  refine TC.seq ?_
  refine TC.region ?_
  refine TL.run1 (pure_assign rfl) rfl ?_
  refine TL.nil' ?_
  refine TC.seq ?_
  refine TC.region ?_
  refine TL.run1 (pure_build Ty.pl108 Ty.zero108 (.cons rfl rfl (.one rfl) rfl (.here (.nil _)) (.cons rfl rfl (.one rfl) rfl (.skip (.here (.nil _))) (.cons rfl rfl (.one rfl) rfl (.skip (.skip (.here (.nil _)))) (.nil _))))) rfl ?_
  refine TL.run1 (pure_build Ty.pl108 Ty.zero108 (.cons rfl rfl (.one rfl) rfl (.here (.nil _)) (.cons rfl rfl (.one rfl) rfl (.skip (.here (.nil _))) (.cons rfl rfl (.one rfl) rfl (.skip (.skip (.here (.nil _)))) (.nil _))))) rfl ?_
  refine TL.run1 (pure_build Ty.pl108 Ty.zero108 (.cons rfl rfl (.one rfl) rfl (.here (.nil _)) (.cons rfl rfl (.one rfl) rfl (.skip (.here (.nil _))) (.cons rfl rfl (.one rfl) rfl (.skip (.skip (.here (.nil _)))) (.nil _))))) rfl ?_
  refine TL.run1 (pure_build Ty.pl108 Ty.zero108 (.cons rfl rfl (.one rfl) rfl (.here (.nil _)) (.cons rfl rfl (.one rfl) rfl (.skip (.here (.nil _))) (.cons rfl rfl (.one rfl) rfl (.skip (.skip (.here (.nil _)))) (.nil _))))) rfl ?_
  refine TL.run1 (pure_build Ty.pl108 Ty.zero108 (.cons rfl rfl (.one rfl) rfl (.here (.nil _)) (.cons rfl rfl (.one rfl) rfl (.skip (.here (.nil _))) (.cons rfl rfl (.one rfl) rfl (.skip (.skip (.here (.nil _)))) (.nil _))))) rfl ?_
  refine TL.run1 (pure_build Ty.pl108 Ty.zero108 (.cons rfl rfl (.one rfl) rfl (.here (.nil _)) (.cons rfl rfl (.one rfl) rfl (.skip (.here (.nil _))) (.cons rfl rfl (.one rfl) rfl (.skip (.skip (.here (.nil _)))) (.nil _))))) rfl ?_
  refine TL.run1 (pure_build Ty.pl108 Ty.zero108 (.cons rfl rfl (.one rfl) rfl (.here (.nil _)) (.cons rfl rfl (.one rfl) rfl (.skip (.here (.nil _))) (.cons rfl rfl (.one rfl) rfl (.skip (.skip (.here (.nil _)))) (.nil _))))) rfl ?_
  refine TL.run1 (pure_build Ty.pl108 Ty.zero108 (.cons rfl rfl (.one rfl) rfl (.here (.nil _)) (.cons rfl rfl (.one rfl) rfl (.skip (.here (.nil _))) (.cons rfl rfl (.one rfl) rfl (.skip (.skip (.here (.nil _)))) (.nil _))))) rfl ?_
  refine TL.run1 (pure_build Ty.pl108 Ty.zero108 (.cons rfl rfl (.one rfl) rfl (.here (.nil _)) (.cons rfl rfl (.one rfl) rfl (.skip (.here (.nil _))) (.cons rfl rfl (.one rfl) rfl (.skip (.skip (.here (.nil _)))) (.nil _))))) rfl ?_
  refine TL.run1 (pure_build Ty.pl108 Ty.zero108 (.cons rfl rfl (.one rfl) rfl (.here (.nil _)) (.cons rfl rfl (.one rfl) rfl (.skip (.here (.nil _))) (.cons rfl rfl (.one rfl) rfl (.skip (.skip (.here (.nil _)))) (.nil _))))) rfl ?_
  refine TL.run1 (pure_build Ty.pl108 Ty.zero108 (.cons rfl rfl (.one rfl) rfl (.here (.nil _)) (.cons rfl rfl (.one rfl) rfl (.skip (.here (.nil _))) (.cons rfl rfl (.one rfl) rfl (.skip (.skip (.here (.nil _)))) (.nil _))))) rfl ?_
  refine TL.run1 (pure_build Ty.pl108 Ty.zero108 (.cons rfl rfl (.one rfl) rfl (.here (.nil _)) (.cons rfl rfl (.one rfl) rfl (.skip (.here (.nil _))) (.cons rfl rfl (.one rfl) rfl (.skip (.skip (.here (.nil _)))) (.nil _))))) rfl ?_
  refine TL.run1 (pure_build Ty.pl108 Ty.zero108 (.cons rfl rfl (.one rfl) rfl (.here (.nil _)) (.cons rfl rfl (.one rfl) rfl (.skip (.here (.nil _))) (.cons rfl rfl (.one rfl) rfl (.skip (.skip (.here (.nil _)))) (.nil _))))) rfl ?_
  refine TL.run1 (pure_build Ty.pl108 Ty.zero108 (.cons rfl rfl (.one rfl) rfl (.here (.nil _)) (.cons rfl rfl (.one rfl) rfl (.skip (.here (.nil _))) (.cons rfl rfl (.one rfl) rfl (.skip (.skip (.here (.nil _)))) (.nil _))))) rfl ?_
  refine TL.run1 (pure_build Ty.pl108 Ty.zero108 (.cons rfl rfl (.one rfl) rfl (.here (.nil _)) (.cons rfl rfl (.one rfl) rfl (.skip (.here (.nil _))) (.cons rfl rfl (.one rfl) rfl (.skip (.skip (.here (.nil _)))) (.nil _))))) rfl ?_
  refine TL.run1 (pure_build Ty.pl108 Ty.zero108 (.cons rfl rfl (.one rfl) rfl (.here (.nil _)) (.cons rfl rfl (.one rfl) rfl (.skip (.here (.nil _))) (.cons rfl rfl (.one rfl) rfl (.skip (.skip (.here (.nil _)))) (.nil _))))) rfl ?_
  refine TL.run1 (pure_build Ty.pl108 Ty.zero108 (.cons rfl rfl (.one rfl) rfl (.here (.nil _)) (.cons rfl rfl (.one rfl) rfl (.skip (.here (.nil _))) (.cons rfl rfl (.one rfl) rfl (.skip (.skip (.here (.nil _)))) (.nil _))))) rfl ?_
  refine TL.run1 (pure_build Ty.pl108 Ty.zero108 (.cons rfl rfl (.one rfl) rfl (.here (.nil _)) (.cons rfl rfl (.one rfl) rfl (.skip (.here (.nil _))) (.cons rfl rfl (.one rfl) rfl (.skip (.skip (.here (.nil _)))) (.nil _))))) rfl ?_
  refine TL.run1 (pure_build Ty.pl108 Ty.zero108 (.cons rfl rfl (.one rfl) rfl (.here (.nil _)) (.cons rfl rfl (.one rfl) rfl (.skip (.here (.nil _))) (.cons rfl rfl (.one rfl) rfl (.skip (.skip (.here (.nil _)))) (.nil _))))) rfl ?_
  refine TL.run1 (pure_build Ty.pl108 Ty.zero108 (.cons rfl rfl (.one rfl) rfl (.here (.nil _)) (.cons rfl rfl (.one rfl) rfl (.skip (.here (.nil _))) (.cons rfl rfl (.one rfl) rfl (.skip (.skip (.here (.nil _)))) (.nil _))))) rfl ?_
  refine TL.run1 (pure_build Ty.pl108 Ty.zero108 (.cons rfl rfl (.one rfl) rfl (.here (.nil _)) (.cons rfl rfl (.one rfl) rfl (.skip (.here (.nil _))) (.cons rfl rfl (.one rfl) rfl (.skip (.skip (.here (.nil _)))) (.nil _))))) rfl ?_
  refine TL.run1 (pure_build Ty.pl108 Ty.zero108 (.cons rfl rfl (.one rfl) rfl (.here (.nil _)) (.cons rfl rfl (.one rfl) rfl (.skip (.here (.nil _))) (.cons rfl rfl (.one rfl) rfl (.skip (.skip (.here (.nil _)))) (.nil _))))) rfl ?_
  refine TL.run1 (pure_build Ty.pl108 Ty.zero108 (.cons rfl rfl (.one rfl) rfl (.here (.nil _)) (.cons rfl rfl (.one rfl) rfl (.skip (.here (.nil _))) (.cons rfl rfl (.one rfl) rfl (.skip (.skip (.here (.nil _)))) (.nil _))))) rfl ?_
  refine TL.run1 (pure_build Ty.pl108 Ty.zero108 (.cons rfl rfl (.one rfl) rfl (.here (.nil _)) (.cons rfl rfl (.one rfl) rfl (.skip (.here (.nil _))) (.cons rfl rfl (.one rfl) rfl (.skip (.skip (.here (.nil _)))) (.nil _))))) rfl ?_
  refine TL.run1 (pure_build Ty.pl108 Ty.zero108 (.cons rfl rfl (.one rfl) rfl (.here (.nil _)) (.cons rfl rfl (.one rfl) rfl (.skip (.here (.nil _))) (.cons rfl rfl (.one rfl) rfl (.skip (.skip (.here (.nil _)))) (.nil _))))) rfl ?_
  refine TL.run1 (pure_build Ty.pl108 Ty.zero108 (.cons rfl rfl (.one rfl) rfl (.here (.nil _)) (.cons rfl rfl (.one rfl) rfl (.skip (.here (.nil _))) (.cons rfl rfl (.one rfl) rfl (.skip (.skip (.here (.nil _)))) (.nil _))))) rfl ?_
  refine TL.run1 (pure_build Ty.pl108 Ty.zero108 (.cons rfl rfl (.one rfl) rfl (.here (.nil _)) (.cons rfl rfl (.one rfl) rfl (.skip (.here (.nil _))) (.cons rfl rfl (.one rfl) rfl (.skip (.skip (.here (.nil _)))) (.nil _))))) rfl ?_
  refine TL.run1 (pure_build Ty.pl108 Ty.zero108 (.cons rfl rfl (.one rfl) rfl (.here (.nil _)) (.cons rfl rfl (.one rfl) rfl (.skip (.here (.nil _))) (.cons rfl rfl (.one rfl) rfl (.skip (.skip (.here (.nil _)))) (.nil _))))) rfl ?_
  refine TL.run1 (pure_build Ty.pl108 Ty.zero108 (.cons rfl rfl (.one rfl) rfl (.here (.nil _)) (.cons rfl rfl (.one rfl) rfl (.skip (.here (.nil _))) (.cons rfl rfl (.one rfl) rfl (.skip (.skip (.here (.nil _)))) (.nil _))))) rfl ?_
  refine TL.run1 (pure_build Ty.pl108 Ty.zero108 (.cons rfl rfl (.one rfl) rfl (.here (.nil _)) (.cons rfl rfl (.one rfl) rfl (.skip (.here (.nil _))) (.cons rfl rfl (.one rfl) rfl (.skip (.skip (.here (.nil _)))) (.nil _))))) rfl ?_
  refine TL.run1 (pure_build Ty.pl108 Ty.zero108 (.cons rfl rfl (.one rfl) rfl (.here (.nil _)) (.cons rfl rfl (.one rfl) rfl (.skip (.here (.nil _))) (.cons rfl rfl (.one rfl) rfl (.skip (.skip (.here (.nil _)))) (.nil _))))) rfl ?_
  refine TL.run1 (pure_build Ty.pl108 Ty.zero108 (.cons rfl rfl (.one rfl) rfl (.here (.nil _)) (.cons rfl rfl (.one rfl) rfl (.skip (.here (.nil _))) (.cons rfl rfl (.one rfl) rfl (.skip (.skip (.here (.nil _)))) (.nil _))))) rfl ?_
  refine TL.run1 (pure_build Ty.pl108 Ty.zero108 (.cons rfl rfl (.one rfl) rfl (.here (.nil _)) (.cons rfl rfl (.one rfl) rfl (.skip (.here (.nil _))) (.cons rfl rfl (.one rfl) rfl (.skip (.skip (.here (.nil _)))) (.nil _))))) rfl ?_
  refine TL.run1 (pure_build Ty.pl108 Ty.zero108 (.cons rfl rfl (.one rfl) rfl (.here (.nil _)) (.cons rfl rfl (.one rfl) rfl (.skip (.here (.nil _))) (.cons rfl rfl (.one rfl) rfl (.skip (.skip (.here (.nil _)))) (.nil _))))) rfl ?_
  refine TL.run1 (pure_build Ty.pl108 Ty.zero108 (.cons rfl rfl (.one rfl) rfl (.here (.nil _)) (.cons rfl rfl (.one rfl) rfl (.skip (.here (.nil _))) (.cons rfl rfl (.one rfl) rfl (.skip (.skip (.here (.nil _)))) (.nil _))))) rfl ?_
  refine TL.run1 (pure_build Ty.pl108 Ty.zero108 (.cons rfl rfl (.one rfl) rfl (.here (.nil _)) (.cons rfl rfl (.one rfl) rfl (.skip (.here (.nil _))) (.cons rfl rfl (.one rfl) rfl (.skip (.skip (.here (.nil _)))) (.nil _))))) rfl ?_
  refine TL.run1 (pure_build Ty.pl108 Ty.zero108 (.cons rfl rfl (.one rfl) rfl (.here (.nil _)) (.cons rfl rfl (.one rfl) rfl (.skip (.here (.nil _))) (.cons rfl rfl (.one rfl) rfl (.skip (.skip (.here (.nil _)))) (.nil _))))) rfl ?_
  refine TL.run1 (pure_build Ty.pl108 Ty.zero108 (.cons rfl rfl (.one rfl) rfl (.here (.nil _)) (.cons rfl rfl (.one rfl) rfl (.skip (.here (.nil _))) (.cons rfl rfl (.one rfl) rfl (.skip (.skip (.here (.nil _)))) (.nil _))))) rfl ?_
  refine TL.run1 (pure_build Ty.pl108 Ty.zero108 (.cons rfl rfl (.one rfl) rfl (.here (.nil _)) (.cons rfl rfl (.one rfl) rfl (.skip (.here (.nil _))) (.cons rfl rfl (.one rfl) rfl (.skip (.skip (.here (.nil _)))) (.nil _))))) rfl ?_
  refine TL.run1 (pure_build Ty.pl108 Ty.zero108 (.cons rfl rfl (.one rfl) rfl (.here (.nil _)) (.cons rfl rfl (.one rfl) rfl (.skip (.here (.nil _))) (.cons rfl rfl (.one rfl) rfl (.skip (.skip (.here (.nil _)))) (.nil _))))) rfl ?_
  refine TL.run1 (pure_build Ty.pl108 Ty.zero108 (.cons rfl rfl (.one rfl) rfl (.here (.nil _)) (.cons rfl rfl (.one rfl) rfl (.skip (.here (.nil _))) (.cons rfl rfl (.one rfl) rfl (.skip (.skip (.here (.nil _)))) (.nil _))))) rfl ?_
  refine TL.run1 (pure_build Ty.pl108 Ty.zero108 (.cons rfl rfl (.one rfl) rfl (.here (.nil _)) (.cons rfl rfl (.one rfl) rfl (.skip (.here (.nil _))) (.cons rfl rfl (.one rfl) rfl (.skip (.skip (.here (.nil _)))) (.nil _))))) rfl ?_
  refine TL.run1 (pure_build Ty.pl108 Ty.zero108 (.cons rfl rfl (.one rfl) rfl (.here (.nil _)) (.cons rfl rfl (.one rfl) rfl (.skip (.here (.nil _))) (.cons rfl rfl (.one rfl) rfl (.skip (.skip (.here (.nil _)))) (.nil _))))) rfl ?_
  refine TL.run1 (pure_build Ty.pl108 Ty.zero108 (.cons rfl rfl (.one rfl) rfl (.here (.nil _)) (.cons rfl rfl (.one rfl) rfl (.skip (.here (.nil _))) (.cons rfl rfl (.one rfl) rfl (.skip (.skip (.here (.nil _)))) (.nil _))))) rfl ?_
  refine TL.run1 (pure_build Ty.pl108 Ty.zero108 (.cons rfl rfl (.one rfl) rfl (.here (.nil _)) (.cons rfl rfl (.one rfl) rfl (.skip (.here (.nil _))) (.cons rfl rfl (.one rfl) rfl (.skip (.skip (.here (.nil _)))) (.nil _))))) rfl ?_
  refine TL.run1 (pure_build Ty.pl108 Ty.zero108 (.cons rfl rfl (.one rfl) rfl (.here (.nil _)) (.cons rfl rfl (.one rfl) rfl (.skip (.here (.nil _))) (.cons rfl rfl (.one rfl) rfl (.skip (.skip (.here (.nil _)))) (.nil _))))) rfl ?_
  refine TL.run1 (pure_build Ty.pl108 Ty.zero108 (.cons rfl rfl (.one rfl) rfl (.here (.nil _)) (.cons rfl rfl (.one rfl) rfl (.skip (.here (.nil _))) (.cons rfl rfl (.one rfl) rfl (.skip (.skip (.here (.nil _)))) (.nil _))))) rfl ?_
  refine TL.run1 (pure_build Ty.pl108 Ty.zero108 (.cons rfl rfl (.one rfl) rfl (.here (.nil _)) (.cons rfl rfl (.one rfl) rfl (.skip (.here (.nil _))) (.cons rfl rfl (.one rfl) rfl (.skip (.skip (.here (.nil _)))) (.nil _))))) rfl ?_
  refine TL.run1 (pure_build Ty.pl108 Ty.zero108 (.cons rfl rfl (.one rfl) rfl (.here (.nil _)) (.cons rfl rfl (.one rfl) rfl (.skip (.here (.nil _))) (.cons rfl rfl (.one rfl) rfl (.skip (.skip (.here (.nil _)))) (.nil _))))) rfl ?_
  refine TL.run1 (pure_build Ty.pl108 Ty.zero108 (.cons rfl rfl (.one rfl) rfl (.here (.nil _)) (.cons rfl rfl (.one rfl) rfl (.skip (.here (.nil _))) (.cons rfl rfl (.one rfl) rfl (.skip (.skip (.here (.nil _)))) (.nil _))))) rfl ?_
  refine TL.run1 (pure_build Ty.pl108 Ty.zero108 (.cons rfl rfl (.one rfl) rfl (.here (.nil _)) (.cons rfl rfl (.one rfl) rfl (.skip (.here (.nil _))) (.cons rfl rfl (.one rfl) rfl (.skip (.skip (.here (.nil _)))) (.nil _))))) rfl ?_
  refine TL.run1 (pure_build Ty.pl108 Ty.zero108 (.cons rfl rfl (.one rfl) rfl (.here (.nil _)) (.cons rfl rfl (.one rfl) rfl (.skip (.here (.nil _))) (.cons rfl rfl (.one rfl) rfl (.skip (.skip (.here (.nil _)))) (.nil _))))) rfl ?_
  refine TL.run1 (pure_build Ty.pl108 Ty.zero108 (.cons rfl rfl (.one rfl) rfl (.here (.nil _)) (.cons rfl rfl (.one rfl) rfl (.skip (.here (.nil _))) (.cons rfl rfl (.one rfl) rfl (.skip (.skip (.here (.nil _)))) (.nil _))))) rfl ?_
  refine TL.run1 (pure_build Ty.pl108 Ty.zero108 (.cons rfl rfl (.one rfl) rfl (.here (.nil _)) (.cons rfl rfl (.one rfl) rfl (.skip (.here (.nil _))) (.cons rfl rfl (.one rfl) rfl (.skip (.skip (.here (.nil _)))) (.nil _))))) rfl ?_
  refine TL.run1 (pure_build Ty.pl108 Ty.zero108 (.cons rfl rfl (.one rfl) rfl (.here (.nil _)) (.cons rfl rfl (.one rfl) rfl (.skip (.here (.nil _))) (.cons rfl rfl (.one rfl) rfl (.skip (.skip (.here (.nil _)))) (.nil _))))) rfl ?_
  refine TL.run1 (pure_build Ty.pl108 Ty.zero108 (.cons rfl rfl (.one rfl) rfl (.here (.nil _)) (.cons rfl rfl (.one rfl) rfl (.skip (.here (.nil _))) (.cons rfl rfl (.one rfl) rfl (.skip (.skip (.here (.nil _)))) (.nil _))))) rfl ?_
  refine TL.run1 (pure_build Ty.pl108 Ty.zero108 (.cons rfl rfl (.one rfl) rfl (.here (.nil _)) (.cons rfl rfl (.one rfl) rfl (.skip (.here (.nil _))) (.cons rfl rfl (.one rfl) rfl (.skip (.skip (.here (.nil _)))) (.nil _))))) rfl ?_
  refine TL.run1 (pure_build Ty.pl108 Ty.zero108 (.cons rfl rfl (.one rfl) rfl (.here (.nil _)) (.cons rfl rfl (.one rfl) rfl (.skip (.here (.nil _))) (.cons rfl rfl (.one rfl) rfl (.skip (.skip (.here (.nil _)))) (.nil _))))) rfl ?_
  refine TL.run1 (pure_build Ty.pl108 Ty.zero108 (.cons rfl rfl (.one rfl) rfl (.here (.nil _)) (.cons rfl rfl (.one rfl) rfl (.skip (.here (.nil _))) (.cons rfl rfl (.one rfl) rfl (.skip (.skip (.here (.nil _)))) (.nil _))))) rfl ?_
  refine TL.run1 (pure_build Ty.pl108 Ty.zero108 (.cons rfl rfl (.one rfl) rfl (.here (.nil _)) (.cons rfl rfl (.one rfl) rfl (.skip (.here (.nil _))) (.cons rfl rfl (.one rfl) rfl (.skip (.skip (.here (.nil _)))) (.nil _))))) rfl ?_
  refine TL.run1 (pure_build Ty.pl108 Ty.zero108 (.cons rfl rfl (.one rfl) rfl (.here (.nil _)) (.cons rfl rfl (.one rfl) rfl (.skip (.here (.nil _))) (.cons rfl rfl (.one rfl) rfl (.skip (.skip (.here (.nil _)))) (.nil _))))) rfl ?_
  refine TL.run1 (pure_build Ty.pl108 Ty.zero108 (.cons rfl rfl (.one rfl) rfl (.here (.nil _)) (.cons rfl rfl (.one rfl) rfl (.skip (.here (.nil _))) (.cons rfl rfl (.one rfl) rfl (.skip (.skip (.here (.nil _)))) (.nil _))))) rfl ?_
  refine TL.run1 (pure_build Ty.pl108 Ty.zero108 (.cons rfl rfl (.one rfl) rfl (.here (.nil _)) (.cons rfl rfl (.one rfl) rfl (.skip (.here (.nil _))) (.cons rfl rfl (.one rfl) rfl (.skip (.skip (.here (.nil _)))) (.nil _))))) rfl ?_
  refine TL.run1 (pure_build Ty.pl108 Ty.zero108 (.cons rfl rfl (.one rfl) rfl (.here (.nil _)) (.cons rfl rfl (.one rfl) rfl (.skip (.here (.nil _))) (.cons rfl rfl (.one rfl) rfl (.skip (.skip (.here (.nil _)))) (.nil _))))) rfl ?_
  refine TL.run1 (pure_build Ty.pl108 Ty.zero108 (.cons rfl rfl (.one rfl) rfl (.here (.nil _)) (.cons rfl rfl (.one rfl) rfl (.skip (.here (.nil _))) (.cons rfl rfl (.one rfl) rfl (.skip (.skip (.here (.nil _)))) (.nil _))))) rfl ?_
  refine TL.run1 (pure_build Ty.pl108 Ty.zero108 (.cons rfl rfl (.one rfl) rfl (.here (.nil _)) (.cons rfl rfl (.one rfl) rfl (.skip (.here (.nil _))) (.cons rfl rfl (.one rfl) rfl (.skip (.skip (.here (.nil _)))) (.nil _))))) rfl ?_
  refine TL.run1 (pure_build Ty.pl108 Ty.zero108 (.cons rfl rfl (.one rfl) rfl (.here (.nil _)) (.cons rfl rfl (.one rfl) rfl (.skip (.here (.nil _))) (.cons rfl rfl (.one rfl) rfl (.skip (.skip (.here (.nil _)))) (.nil _))))) rfl ?_
  refine TL.run1 (pure_build Ty.pl108 Ty.zero108 (.cons rfl rfl (.one rfl) rfl (.here (.nil _)) (.cons rfl rfl (.one rfl) rfl (.skip (.here (.nil _))) (.cons rfl rfl (.one rfl) rfl (.skip (.skip (.here (.nil _)))) (.nil _))))) rfl ?_
  refine TL.run1 (pure_build Ty.pl108 Ty.zero108 (.cons rfl rfl (.one rfl) rfl (.here (.nil _)) (.cons rfl rfl (.one rfl) rfl (.skip (.here (.nil _))) (.cons rfl rfl (.one rfl) rfl (.skip (.skip (.here (.nil _)))) (.nil _))))) rfl ?_
  refine TL.run1 (pure_build Ty.pl108 Ty.zero108 (.cons rfl rfl (.one rfl) rfl (.here (.nil _)) (.cons rfl rfl (.one rfl) rfl (.skip (.here (.nil _))) (.cons rfl rfl (.one rfl) rfl (.skip (.skip (.here (.nil _)))) (.nil _))))) rfl ?_
  refine TL.run1 (pure_build Ty.pl108 Ty.zero108 (.cons rfl rfl (.one rfl) rfl (.here (.nil _)) (.cons rfl rfl (.one rfl) rfl (.skip (.here (.nil _))) (.cons rfl rfl (.one rfl) rfl (.skip (.skip (.here (.nil _)))) (.nil _))))) rfl ?_
  refine TL.run1 (pure_build Ty.pl108 Ty.zero108 (.cons rfl rfl (.one rfl) rfl (.here (.nil _)) (.cons rfl rfl (.one rfl) rfl (.skip (.here (.nil _))) (.cons rfl rfl (.one rfl) rfl (.skip (.skip (.here (.nil _)))) (.nil _))))) rfl ?_
  refine TL.run1 (pure_build Ty.pl108 Ty.zero108 (.cons rfl rfl (.one rfl) rfl (.here (.nil _)) (.cons rfl rfl (.one rfl) rfl (.skip (.here (.nil _))) (.cons rfl rfl (.one rfl) rfl (.skip (.skip (.here (.nil _)))) (.nil _))))) rfl ?_
  refine TL.run1 (pure_build Ty.pl108 Ty.zero108 (.cons rfl rfl (.one rfl) rfl (.here (.nil _)) (.cons rfl rfl (.one rfl) rfl (.skip (.here (.nil _))) (.cons rfl rfl (.one rfl) rfl (.skip (.skip (.here (.nil _)))) (.nil _))))) rfl ?_
  refine TL.run1 (pure_build Ty.pl108 Ty.zero108 (.cons rfl rfl (.one rfl) rfl (.here (.nil _)) (.cons rfl rfl (.one rfl) rfl (.skip (.here (.nil _))) (.cons rfl rfl (.one rfl) rfl (.skip (.skip (.here (.nil _)))) (.nil _))))) rfl ?_
  refine TL.run1 (pure_build Ty.pl108 Ty.zero108 (.cons rfl rfl (.one rfl) rfl (.here (.nil _)) (.cons rfl rfl (.one rfl) rfl (.skip (.here (.nil _))) (.cons rfl rfl (.one rfl) rfl (.skip (.skip (.here (.nil _)))) (.nil _))))) rfl ?_
  refine TL.run1 (pure_build Ty.pl108 Ty.zero108 (.cons rfl rfl (.one rfl) rfl (.here (.nil _)) (.cons rfl rfl (.one rfl) rfl (.skip (.here (.nil _))) (.cons rfl rfl (.one rfl) rfl (.skip (.skip (.here (.nil _)))) (.nil _))))) rfl ?_
  refine TL.run1 (pure_build Ty.pl108 Ty.zero108 (.cons rfl rfl (.one rfl) rfl (.here (.nil _)) (.cons rfl rfl (.one rfl) rfl (.skip (.here (.nil _))) (.cons rfl rfl (.one rfl) rfl (.skip (.skip (.here (.nil _)))) (.nil _))))) rfl ?_
  refine TL.run1 (pure_build Ty.pl108 Ty.zero108 (.cons rfl rfl (.one rfl) rfl (.here (.nil _)) (.cons rfl rfl (.one rfl) rfl (.skip (.here (.nil _))) (.cons rfl rfl (.one rfl) rfl (.skip (.skip (.here (.nil _)))) (.nil _))))) rfl ?_
  refine TL.run1 (pure_build Ty.pl108 Ty.zero108 (.cons rfl rfl (.one rfl) rfl (.here (.nil _)) (.cons rfl rfl (.one rfl) rfl (.skip (.here (.nil _))) (.cons rfl rfl (.one rfl) rfl (.skip (.skip (.here (.nil _)))) (.nil _))))) rfl ?_
  refine TL.run1 (pure_build Ty.pl108 Ty.zero108 (.cons rfl rfl (.one rfl) rfl (.here (.nil _)) (.cons rfl rfl (.one rfl) rfl (.skip (.here (.nil _))) (.cons rfl rfl (.one rfl) rfl (.skip (.skip (.here (.nil _)))) (.nil _))))) rfl ?_
  refine TL.run1 (pure_build Ty.pl108 Ty.zero108 (.cons rfl rfl (.one rfl) rfl (.here (.nil _)) (.cons rfl rfl (.one rfl) rfl (.skip (.here (.nil _))) (.cons rfl rfl (.one rfl) rfl (.skip (.skip (.here (.nil _)))) (.nil _))))) rfl ?_
  refine TL.run1 (pure_build Ty.pl108 Ty.zero108 (.cons rfl rfl (.one rfl) rfl (.here (.nil _)) (.cons rfl rfl (.one rfl) rfl (.skip (.here (.nil _))) (.cons rfl rfl (.one rfl) rfl (.skip (.skip (.here (.nil _)))) (.nil _))))) rfl ?_
  refine TL.run1 (pure_build Ty.pl108 Ty.zero108 (.cons rfl rfl (.one rfl) rfl (.here (.nil _)) (.cons rfl rfl (.one rfl) rfl (.skip (.here (.nil _))) (.cons rfl rfl (.one rfl) rfl (.skip (.skip (.here (.nil _)))) (.nil _))))) rfl ?_
  refine TL.run1 (pure_build Ty.pl108 Ty.zero108 (.cons rfl rfl (.one rfl) rfl (.here (.nil _)) (.cons rfl rfl (.one rfl) rfl (.skip (.here (.nil _))) (.cons rfl rfl (.one rfl) rfl (.skip (.skip (.here (.nil _)))) (.nil _))))) rfl ?_
  refine TL.run1 (pure_build Ty.pl108 Ty.zero108 (.cons rfl rfl (.one rfl) rfl (.here (.nil _)) (.cons rfl rfl (.one rfl) rfl (.skip (.here (.nil _))) (.cons rfl rfl (.one rfl) rfl (.skip (.skip (.here (.nil _)))) (.nil _))))) rfl ?_
  refine TL.run1 (pure_build Ty.pl108 Ty.zero108 (.cons rfl rfl (.one rfl) rfl (.here (.nil _)) (.cons rfl rfl (.one rfl) rfl (.skip (.here (.nil _))) (.cons rfl rfl (.one rfl) rfl (.skip (.skip (.here (.nil _)))) (.nil _))))) rfl ?_
  refine TL.run1 (pure_build Ty.pl108 Ty.zero108 (.cons rfl rfl (.one rfl) rfl (.here (.nil _)) (.cons rfl rfl (.one rfl) rfl (.skip (.here (.nil _))) (.cons rfl rfl (.one rfl) rfl (.skip (.skip (.here (.nil _)))) (.nil _))))) rfl ?_
  refine TL.run1 (pure_build Ty.pl108 Ty.zero108 (.cons rfl rfl (.one rfl) rfl (.here (.nil _)) (.cons rfl rfl (.one rfl) rfl (.skip (.here (.nil _))) (.cons rfl rfl (.one rfl) rfl (.skip (.skip (.here (.nil _)))) (.nil _))))) rfl ?_
  refine TL.run1 (pure_build Ty.pl108 Ty.zero108 (.cons rfl rfl (.one rfl) rfl (.here (.nil _)) (.cons rfl rfl (.one rfl) rfl (.skip (.here (.nil _))) (.cons rfl rfl (.one rfl) rfl (.skip (.skip (.here (.nil _)))) (.nil _))))) rfl ?_
  refine TL.run1 (pure_build Ty.pl108 Ty.zero108 (.cons rfl rfl (.one rfl) rfl (.here (.nil _)) (.cons rfl rfl (.one rfl) rfl (.skip (.here (.nil _))) (.cons rfl rfl (.one rfl) rfl (.skip (.skip (.here (.nil _)))) (.nil _))))) rfl ?_
  refine TL.run1 (pure_build Ty.pl108 Ty.zero108 (.cons rfl rfl (.one rfl) rfl (.here (.nil _)) (.cons rfl rfl (.one rfl) rfl (.skip (.here (.nil _))) (.cons rfl rfl (.one rfl) rfl (.skip (.skip (.here (.nil _)))) (.nil _))))) rfl ?_
  refine TL.run1 (pure_build Ty.pl108 Ty.zero108 (.cons rfl rfl (.one rfl) rfl (.here (.nil _)) (.cons rfl rfl (.one rfl) rfl (.skip (.here (.nil _))) (.cons rfl rfl (.one rfl) rfl (.skip (.skip (.here (.nil _)))) (.nil _))))) rfl ?_
  refine TL.run1 (pure_build Ty.pl108 Ty.zero108 (.cons rfl rfl (.one rfl) rfl (.here (.nil _)) (.cons rfl rfl (.one rfl) rfl (.skip (.here (.nil _))) (.cons rfl rfl (.one rfl) rfl (.skip (.skip (.here (.nil _)))) (.nil _))))) rfl ?_
  refine TL.run1 (pure_buildSlice (xs := [.tmp 1, .tmp 2, .tmp 3, .tmp 4, .tmp 5, .tmp 6, .tmp 7, .tmp 8, .tmp 9, .tmp 10, .tmp 11, .tmp 12, .tmp 13, .tmp 14, .tmp 15, .tmp 16, .tmp 17, .tmp 18, .tmp 19, .tmp 20, .tmp 21, .tmp 22, .tmp 23, .tmp 24, .tmp 25, .tmp 26, .tmp 27, .tmp 28, .tmp 29, .tmp 30, .tmp 31, .tmp 32, .tmp 33, .tmp 34, .tmp 35, .tmp 36, .tmp 37, .tmp 38, .tmp 39, .tmp 40, .tmp 41, .tmp 42, .tmp 43, .tmp 44, .tmp 45, .tmp 46, .tmp 47, .tmp 48, .tmp 49, .tmp 50, .tmp 51, .tmp 52, .tmp 53, .tmp 54, .tmp 55, .tmp 56, .tmp 57, .tmp 58, .tmp 59, .tmp 60, .tmp 61, .tmp 62, .tmp 63, .tmp 64, .tmp 65, .tmp 66, .tmp 67, .tmp 68, .tmp 69, .tmp 70, .tmp 71, .tmp 72, .tmp 73, .tmp 74, .tmp 75, .tmp 76, .tmp 77, .tmp 78, .tmp 79, .tmp 80, .tmp 81, .tmp 82, .tmp 83, .tmp 84, .tmp 85, .tmp 86, .tmp 87, .tmp 88, .tmp 89, .tmp 90, .tmp 91, .tmp 92, .tmp 93, .tmp 94]) Ty.app89 (by decide) rfl rfl (.cons rfl (.agg _) rfl (.cons rfl (.agg _) rfl (.cons rfl (.agg _) rfl (.cons rfl (.agg _) rfl (.cons rfl (.agg _) rfl (.cons rfl (.agg _) rfl (.cons rfl (.agg _) rfl (.cons rfl (.agg _) rfl (.cons rfl (.agg _) rfl (.cons rfl (.agg _) rfl (.cons rfl (.agg _) rfl (.cons rfl (.agg _) rfl (.cons rfl (.agg _) rfl (.cons rfl (.agg _) rfl (.cons rfl (.agg _) rfl (.cons rfl (.agg _) rfl (.cons rfl (.agg _) rfl (.cons rfl (.agg _) rfl (.cons rfl (.agg _) rfl (.cons rfl (.agg _) rfl (.cons rfl (.agg _) rfl (.cons rfl (.agg _) rfl (.cons rfl (.agg _) rfl (.cons rfl (.agg _) rfl (.cons rfl (.agg _) rfl (.cons rfl (.agg _) rfl (.cons rfl (.agg _) rfl (.cons rfl (.agg _) rfl (.cons rfl (.agg _) rfl (.cons rfl (.agg _) rfl (.cons rfl (.agg _) rfl (.cons rfl (.agg _) rfl (.cons rfl (.agg _) rfl (.cons rfl (.agg _) rfl (.cons rfl (.agg _) rfl (.cons rfl (.agg _) rfl (.cons rfl (.agg _) rfl (.cons rfl (.agg _) rfl (.cons rfl (.agg _) rfl (.cons rfl (.agg _) rfl (.cons rfl (.agg _) rfl (.cons rfl (.agg _) rfl (.cons rfl (.agg _) rfl (.cons rfl (.agg _) rfl (.cons rfl (.agg _) rfl (.cons rfl (.agg _) rfl (.cons rfl (.agg _) rfl (.cons rfl (.agg _) rfl (.cons rfl (.agg _) rfl (.cons rfl (.agg _) rfl (.cons rfl (.agg _) rfl (.cons rfl (.agg _) rfl (.cons rfl (.agg _) rfl (.cons rfl (.agg _) rfl (.cons rfl (.agg _) rfl (.cons rfl (.agg _) rfl (.cons rfl (.agg _) rfl (.cons rfl (.agg _) rfl (.cons rfl (.agg _) rfl (.cons rfl (.agg _) rfl (.cons rfl (.agg _) rfl (.cons rfl (.agg _) rfl (.cons rfl (.agg _) rfl (.cons rfl (.agg _) rfl (.cons rfl (.agg _) rfl (.cons rfl (.agg _) rfl (.cons rfl (.agg _) rfl (.cons rfl (.agg _) rfl (.cons rfl (.agg _) rfl (.cons rfl (.agg _) rfl (.cons rfl (.agg _) rfl (.cons rfl (.agg _) rfl (.cons rfl (.agg _) rfl (.cons rfl (.agg _) rfl (.cons rfl (.agg _) rfl (.cons rfl (.agg _) rfl (.cons rfl (.agg _) rfl (.cons rfl (.agg _) rfl (.cons rfl (.agg _) rfl (.cons rfl (.agg _) rfl (.cons rfl (.agg _) rfl (.cons rfl (.agg _) rfl (.cons rfl (.agg _) rfl (.cons rfl (.agg _) rfl (.cons rfl (.agg _) rfl (.cons rfl (.agg _) rfl (.cons rfl (.agg _) rfl (.cons rfl (.agg _) rfl (.cons rfl (.agg _) rfl (.cons rfl (.agg _) rfl (.cons rfl (.agg _) rfl (.cons rfl (.agg _) rfl (.cons rfl (.agg _) rfl (.cons rfl (.agg _) rfl .nil))))))))))))))))))))))))))))))))))))))))))))))))))))))))))))))))))))))))))))))))))))))))))))))) rfl ?_
  refine TL.run1 (pure_assign rfl) rfl ?_
  refine TL.nil' ?_
  refine TC.ret ?_
  exact ret_sl rfl rfl

theorem tabG_apart : Apart tabG := by unfold Apart; decide +kernel
theorem tabG_len : tabG.length = 94 := rfl
def classP (p : Int) : Int := if 44032 ≤ p ∧ p ≤ 55203 then (if (p - 44032) % 28 = 0 then 11 else 12) else clsIn tabG p
set_option maxRecDepth 100000 in
theorem classOf1_spec (l : List Span) (p i : Int) (h0 : 0 ≤ i) (h1 : i < l.length) : Fun Tryd.prog 69 [.v (.int .i64 i), .at_ [.sl 3 (encS l)], .at_ [.v (.int .i64 p)]] (.v (.bool (decide ((sAt l i).2.1 ≥ p)))) := by
  refine Fun.enter (n := 12) (rs := [.tmp 4]) Tryd.func69 rfl Tryd.ntmps69 Tryd.results69 rfl (fun w F => ?_)
  have hk := encS_len l
  have hrow := encS_get l i h0 h1
  refine TC.seq ?_
  refine TC.region ?_
  refine TL.run1 (pure_assign rfl) rfl ?_
  refine TL.nil' ?_
  refine TC.seq ?_
  refine TC.draw Ty.follows (by kernel_rfl) ?_
  first | refine TD.run1 (pure_load1 Ty.one89 rfl) rfl ?_ | refine TD.run1 (pure_load1_own Ty.one89 rfl (by repeat (first | exact List.Mem.head _ | apply List.Mem.tail)) (by repeat (first | exact DropR.zero _ | apply DropR.succ))) rfl ?_
  refine TD.run1 (pure_move rfl) rfl ?_
  refine TD.run1 (pure_indexAddr Ty.sl89 rfl rfl (by omega) (by assumption) (List.cons_ne_nil _ _)) rfl ?_
  first | refine TD.run1 (pure_fieldAddr Ty.f108_1 rfl (.succ (.zero _)) (List.cons_ne_nil _ _)) rfl ?_ | refine TD.run1 (pure_fieldAddr_own Ty.f108_1 rfl) rfl ?_
  first | refine TD.run1 (pure_load1 Ty.one3 rfl) rfl ?_ | refine TD.run1 (pure_load1_own Ty.one3 rfl (by repeat (first | exact List.Mem.head _ | apply List.Mem.tail)) (by repeat (first | exact DropR.zero _ | apply DropR.succ))) rfl ?_
  first | refine TD.run1 (pure_load1 Ty.one3 rfl) rfl ?_ | refine TD.run1 (pure_load1_own Ty.one3 rfl (by repeat (first | exact List.Mem.head _ | apply List.Mem.tail)) (by repeat (first | exact DropR.zero _ | apply DropR.succ))) rfl ?_
  refine TD.run1 (pure_geq rfl rfl) rfl ?_
  refine TD.run1 (pure_assign rfl) rfl ?_
  refine TD.nil' ?_
  refine TC.ret ?_
  exact ret_bool rfl rfl
set_option maxRecDepth 100000 in
theorem search45_spec (l : List Span) (p : Int) (n : Int) (hn : n ≤ 4000000000) (q : Int → Bool) (hq : ∀ i : Int, 0 ≤ i → i < n → Fun Tryd.prog 69 ([.v (.int .i64 i)] ++ [.at_ [.sl 3 (encS l)], .at_ [.v (.int .i64 p)]]) (.v (.bool (q i)))) (r : Int) (h0 : 0 ≤ r) (h1 : r ≤ n) (hlo : ∀ i : Int, 0 ≤ i → i < r → q i = false) (hhi : ∀ i : Int, r ≤ i → i < n → q i = true) : Fun Tryd.prog 68 [.v (.int .i64 n), .fn 69 [.at_ [.sl 3 (encS l)], .at_ [.v (.int .i64 p)]]] (.v (.int .i64 r)) := by
  refine Fun.enter (n := 26) (rs := [.tmp 4]) Tryd.func68 rfl Tryd.ntmps68 Tryd.results68 rfl (fun w F => ?_)
  refine TC.seq ?_
  refine TC.region ?_
  refine TL.run1 (pure_assign rfl) rfl ?_
  refine TL.nil' ?_
  refine TC.seq ?_
  refine TC.region ?_
  refine TL.run1 (pure_move rfl) rfl ?_
  refine TL.run1 (pure_assign rfl) rfl ?_
  refine TL.run1 (pure_assign rfl) rfl ?_
  refine TL.nil' ?_
  refine TC.seq ?_
  refine TC.block ?_
  refine TC.loopX (X := Int × Int) (fun (i, j) => [(0, .v (.int .i64 n)), (1, .fn 69 [.at_ [.sl 3 (encS l)], .at_ [.v (.int .i64 p)]]), (5, .v (.int .i64 i)), (6, .v (.int .i64 j))]) (fun (i, j) => []) (fun (i, j) => (0 ≤ i) ∧ (i ≤ r) ∧ (r ≤ j) ∧ (j ≤ n)) (fun (i, j) => (j - i).toNat) (0, n) ⟨by skip; repeat (first | exact Agree.nil | refine Agree.cons rfl ?_), by skip; repeat (first | exact List.nil_sublist _ | exact List.Sublist.refl _ | apply List.Sublist.cons_cons | apply List.Sublist.cons)⟩ ?_ ?_
  · skip
    exact ⟨by omega, h0, h1, by omega⟩
  rintro ⟨i, j⟩
  rintro ⟨k0, k1, k2, k3⟩
  show TC _ _ _ (Env.of [(0, .v (.int .i64 n)), (1, .fn 69 [.at_ [.sl 3 (encS l)], .at_ [.v (.int .i64 p)]]), (5, .v (.int .i64 i)), (6, .v (.int .i64 j))]) []
  refine TC.seq ?_
  refine TC.seq ?_
  refine TC.region ?_
  refine TL.run1 (pure_move rfl) rfl ?_
  refine TL.run1 (pure_move rfl) rfl ?_
  refine TL.run1 (pure_lss rfl rfl) rfl ?_
  refine TL.nil' ?_
  first | refine TC.condD rfl (fun hc11 => ?_) (fun hc11 => ?_) | refine TC.condN rfl (fun hc11 => ?_) (fun hc11 => ?_) | refine TC.cond rfl (fun hc11 => ?_) (fun hc11 => ?_)
  · try dsimp only at hc11
    refine TC.skip' ?_
    refine TC.block ?_
    refine TC.seq ?_
    refine TC.region ?_
    refine TL.run1 (pure_move rfl) rfl ?_
    refine TL.run1 (pure_move rfl) rfl ?_
    refine TL.run1 (pure_add rfl rfl (mkI64 (by omega) (by omega))) rfl ?_
    refine TL.run1 (pure_conv Tryd.underlying3 Tryd.underlying87 rfl (fit_u64 (by omega) (by omega))) rfl ?_
    refine TL.run1 (pure_shrl (m := 2) (by rfl) rfl rfl (by decide) (by decide)) rfl ?_
    refine TL.run1 (pure_conv Tryd.underlying87 Tryd.underlying3 rfl (fit_i64 (by omega) (by omega))) rfl ?_
    refine TL.run1 (pure_assign rfl) rfl ?_
    refine TL.nil' ?_
    refine TC.seq ?_
    have hb : 0 ≤ (i + j) / 2 ∧ (i + j) / 2 < j ∧ i ≤ (i + j) / 2 := by omega
    refine TC.region ?_
    refine TL.run1 (pure_move rfl) rfl ?_
    refine TL.run1 (pure_move rfl) rfl ?_
    refine TL.run1 (pure_callv rfl (hq _ (by omega) (by omega)) (.cons rfl .nil) Tryd.call69) rfl ?_
    refine TL.run1 (pure_not rfl) rfl ?_
    refine TL.nil' ?_
    first | refine TC.condD rfl (fun hc21 => ?_) (fun hc21 => ?_) | refine TC.condN rfl (fun hc21 => ?_) (fun hc21 => ?_) | refine TC.cond rfl (fun hc21 => ?_) (fun hc21 => ?_)
    · try dsimp only at hc21
      have hc21 : q ((i + j) / 2) = false := by simpa using hc21
      refine TC.region ?_
      refine TL.run1 (pure_move rfl) rfl ?_
      refine TL.run1 (pure_add rfl rfl (mkI64 (by omega) (by omega))) rfl ?_
      refine TL.run1 (pure_assign rfl) rfl ?_
      refine TL.nil ?_
      refine block_normal ?_
      have hnr : (i + j) / 2 < r := by rcases Int.lt_or_le ((i + j) / 2) r with h | h; exact h; exact absurd (hhi _ h (by omega)) (by rw [hc21]; simp)
      refine loop_next ((i + j) / 2 + 1, j) ⟨by repeat (first | exact Agree.nil | refine Agree.cons rfl ?_), by repeat (first | exact List.nil_sublist _ | exact List.Sublist.refl _ | apply List.Sublist.cons_cons | apply List.Sublist.cons)⟩ ⟨by omega, by omega, by omega, by omega⟩ (by dsimp only; omega)
    · try dsimp only at hc21
      have hc21 : q ((i + j) / 2) = true := by simpa using hc21
      refine TC.region ?_
      refine TL.run1 (pure_move rfl) rfl ?_
      refine TL.run1 (pure_assign rfl) rfl ?_
      refine TL.nil ?_
      refine block_normal ?_
      have hnr : r ≤ (i + j) / 2 := by rcases Int.lt_or_le ((i + j) / 2) r with h | h; exact absurd (hlo _ (by omega) h) (by rw [hc21]; simp); exact h
      refine loop_next (i, (i + j) / 2) ⟨by repeat (first | exact Agree.nil | refine Agree.cons rfl ?_), by repeat (first | exact List.nil_sublist _ | exact List.Sublist.refl _ | apply List.Sublist.cons_cons | apply List.Sublist.cons)⟩ ⟨by omega, by omega, by omega, by omega⟩ (by dsimp only; omega)
  · try dsimp only at hc11
    refine TC.exit ?_
    refine then_exit ?_
    refine loop_exit ?_
    refine block_here ?_
    refine then_normal ?_
    refine TC.seq ?_
    refine TC.region ?_
    refine TL.run1 (pure_move rfl) rfl ?_
    refine TL.run1 (pure_assign rfl) rfl ?_
    refine TL.nil' ?_
    refine TC.ret ?_
    exact ret_int rfl (by omega)
end Go.Ob
