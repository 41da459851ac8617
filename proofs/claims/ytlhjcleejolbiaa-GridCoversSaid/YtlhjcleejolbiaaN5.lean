import Derived.Test.YtlhjcleejolbiaaW5
set_option linter.unusedVariables false
set_option linter.unusedSimpArgs false
namespace Go.Ob
open Go.Proofs
/-! ### areas, and the smallest one that cuts no rectangle -/
structure A4 where
  t : Int
  l : Int
  b : Int
  r : Int
deriving DecidableEq
def encA (a : A4) : List D := [.v (.int .i64 a.t), .v (.int .i64 a.l), .v (.int .i64 a.b), .v (.int .i64 a.r)]
def a0 : A4 := ⟨0, 0, 0, 0⟩
def MeetQ (q : R6) (a : A4) : Prop := q.top < a.b ∧ a.t < q.bottom ∧ q.left < a.r ∧ a.l < q.right
instance (q : R6) (a : A4) : Decidable (MeetQ q a) := by unfold MeetQ; infer_instance
def SubQ (q : R6) (a : A4) : Prop := a.t ≤ q.top ∧ q.bottom ≤ a.b ∧ a.l ≤ q.left ∧ q.right ≤ a.r
instance (q : R6) (a : A4) : Decidable (SubQ q a) := by unfold SubQ; infer_instance
def LeA (a c : A4) : Prop := c.t ≤ a.t ∧ c.l ≤ a.l ∧ a.b ≤ c.b ∧ a.r ≤ c.r
def growA (q : R6) (a : A4) : A4 := ⟨min a.t q.top, min a.l q.left, max a.b q.bottom, max a.r q.right⟩
def ClosedA (l : List R6) (a : A4) : Prop := ∀ q ∈ l, MeetQ q a → SubQ q a
theorem LeA.refl (a : A4) : LeA a a := ⟨Int.le_refl _, Int.le_refl _, Int.le_refl _, Int.le_refl _⟩
theorem LeA.trans {a b c : A4} (h : LeA a b) (k : LeA b c) : LeA a c := by unfold LeA at *; omega
theorem LeA.anti {a b : A4} (h : LeA a b) (k : LeA b a) : a = b := by
  cases a; cases b
  unfold LeA at *
  simp only at h k
  simp only [A4.mk.injEq]
  omega
theorem le_grow (q : R6) (a : A4) : LeA a (growA q a) := by unfold LeA growA; simp only; omega
theorem grow_least {q : R6} {l : List R6} {a d : A4} (hq : q ∈ l) (hm : MeetQ q a) (hd : LeA a d) (hc : ClosedA l d) : LeA (growA q a) d := by
  have h : MeetQ q d := by unfold MeetQ LeA at *; omega
  have s := hc q hq h
  unfold SubQ LeA growA at *
  simp only
  omega
def stepA4 (a : A4) (q : R6) : A4 := if MeetQ q a then growA q a else a
theorem le_step (a : A4) (q : R6) : LeA a (stepA4 a q) := by
  unfold stepA4; split
  · exact le_grow q a
  · exact LeA.refl a
theorem step_least {q : R6} {l : List R6} {a d : A4} (hq : q ∈ l) (hd : LeA a d) (hc : ClosedA l d) : LeA (stepA4 a q) d := by
  unfold stepA4; split
  · exact grow_least hq (by assumption) hd hc
  · exact hd
def passTo (l : List R6) (a : A4) : Nat → A4
  | 0 => a
  | k + 1 => stepA4 (passTo l a k) (qAt l k)
def passN (l : List R6) (a : A4) : A4 := passTo l a l.length
theorem qAt_mem (l : List R6) (k : Int) (h0 : 0 ≤ k) (h1 : k < l.length) : qAt l k ∈ l := by
  have : k.toNat < l.length := by omega
  simp [qAt, this]
theorem passTo_le (l : List R6) (a : A4) (i : Nat) : ∀ d, LeA (passTo l a i) (passTo l a (i + d))
  | 0 => LeA.refl _
  | d + 1 => (passTo_le l a i d).trans (by rw [← Nat.add_assoc, passTo]; exact le_step _ _)
theorem pass_le (l : List R6) (a : A4) : LeA a (passN l a) := by
  have := passTo_le l a 0 l.length
  rwa [Nat.zero_add] at this
theorem passTo_least {l : List R6} {a d : A4} (hd : LeA a d) (hc : ClosedA l d) : ∀ k, k ≤ l.length → LeA (passTo l a k) d
  | 0, _ => hd
  | k + 1, h => by rw [passTo]; exact step_least (qAt_mem l k (by omega) (by omega)) (passTo_least hd hc k (by omega)) hc
theorem pass_fix {l : List R6} {a : A4} (h : passN l a = a) : ClosedA l a := by
  intro q hq hm
  obtain ⟨k, hk, rfl⟩ := List.getElem_of_mem hq
  have h1 : passTo l a k = a := by
    have x := passTo_le l a 0 k
    have y := passTo_le l a k (l.length - k)
    rw [Nat.zero_add] at x
    rw [show k + (l.length - k) = l.length by omega] at y
    have z : passTo l a l.length = a := h
    rw [z] at y
    exact (x.anti y).symm
  have h2 : passTo l a (k + 1) = a := by
    have x := passTo_le l a 0 (k + 1)
    have y := passTo_le l a (k + 1) (l.length - (k + 1))
    rw [Nat.zero_add] at x
    rw [show k + 1 + (l.length - (k + 1)) = l.length by omega] at y
    have z : passTo l a l.length = a := h
    rw [z] at y
    exact (x.anti y).symm
  have e : qAt l k = l[k] := by simp [qAt, hk]
  rw [passTo, h1, e] at h2
  unfold stepA4 at h2
  rw [if_pos hm] at h2
  have g : LeA (growA l[k] a) a := by rw [h2]; exact LeA.refl a
  unfold LeA growA at g
  simp only at g
  unfold SubQ
  omega
/-- c is the smallest closed area around a -/
structure IsCov (l : List R6) (a c : A4) : Prop where
  le : LeA a c
  closed : ClosedA l c
  least : ∀ d, LeA a d → ClosedA l d → LeA c d
theorem IsCov.unique {l : List R6} {a c d : A4} (h : IsCov l a c) (k : IsCov l a d) : c = d := (h.least d k.le k.closed).anti (k.least c h.le h.closed)
theorem IsCov.self {l : List R6} {a : A4} (h : ClosedA l a) : IsCov l a a := ⟨LeA.refl a, h, fun _ hd _ => hd⟩
/-- within bounds -/
def InA (m : Int) (a : A4) : Prop := 0 ≤ a.t ∧ 0 ≤ a.l ∧ a.b ≤ m ∧ a.r ≤ 32
def muA (m : Int) (a : A4) : Nat := (a.t + a.l + (m - a.b) + (32 - a.r)).toNat
theorem mu_lt {m : Int} {a c : A4} (h : LeA a c) (hne : a ≠ c) (hc : InA m c) : muA m c < muA m a := by
  have : ¬ (a.t = c.t ∧ a.l = c.l ∧ a.b = c.b ∧ a.r = c.r) := fun ⟨h1, h2, h3, h4⟩ => hne (by cases a; cases c; simp_all)
  unfold muA LeA InA at *
  omega
def iterN (l : List R6) : Nat → A4 → A4
  | 0, a => a
  | n + 1, a => if passN l a = a then a else iterN l n (passN l a)
theorem pass_in {l : List R6} {m : Int} (hl : ∀ q ∈ l, 0 ≤ q.top ∧ 0 ≤ q.left ∧ q.bottom ≤ m ∧ q.right ≤ 32) {a : A4} (ha : InA m a) : ∀ k, k ≤ l.length → InA m (passTo l a k)
  | 0, _ => ha
  | k + 1, h => by
    have ih := pass_in hl ha k (by omega)
    have hq := hl _ (qAt_mem l k (by omega) (by omega))
    rw [passTo]
    unfold stepA4
    split
    · unfold InA growA at *; simp only; omega
    · exact ih
theorem iter_cov {l : List R6} {m : Int} (hl : ∀ q ∈ l, 0 ≤ q.top ∧ 0 ≤ q.left ∧ q.bottom ≤ m ∧ q.right ≤ 32) : ∀ (n : Nat) (a : A4), InA m a → muA m a ≤ n → IsCov l a (iterN l n a)
  | 0, a, ha, hn => by
    have hp := pass_in hl ha l.length (Nat.le_refl _)
    have : passN l a = a := Classical.byContradiction fun hne => by
      have := mu_lt (pass_le l a) (fun h => hne h.symm) hp
      omega
    exact IsCov.self (pass_fix this)
  | n + 1, a, ha, hn => by
    rw [iterN]
    split
    · rename_i h; exact IsCov.self (pass_fix h)
    · rename_i hne
      have hp := pass_in hl ha l.length (Nat.le_refl _)
      have hm := mu_lt (pass_le l a) (fun h => hne h.symm) hp
      have ih := iter_cov hl n (passN l a) hp (by have : muA m (passN l a) < muA m a := hm; omega)
      exact ⟨(pass_le l a).trans ih.le, ih.closed, fun d hd hc => ih.least d (passTo_least hd hc _ (Nat.le_refl _)) hc⟩
theorem rect_in {rs : List RowD} : ∀ q ∈ layRects rs, 0 ≤ q.top ∧ 0 ≤ q.left ∧ q.bottom ≤ rs.length ∧ q.right ≤ 32 := by
  intro q hq
  obtain ⟨k, hk, rfl⟩ := List.getElem_of_mem hq
  have e : qAt (layRects rs) k = (layRects rs)[k] := by simp [qAt, hk]
  rw [← e]
  have r := (lay_final rs).C (k : Int) (by omega) (by show (k : Int) < ((layRects rs).length : Int); omega)
  have s := sAt_le (rAt rs (qAt (layRects rs) k).row) (qAt (layRects rs) k).cell r.val.2.2.1 r.val.2.2.2.1
  have es : sAt (spansR (rAt rs (qAt (layRects rs) k).row)) (qAt (layRects rs) k).cell = _ := r.sp
  rw [es] at s
  simp only at s
  have ht : (qAt (layRects rs) k).top = (qAt (layRects rs) k).row := r.top
  have h0 : 0 ≤ (qAt (layRects rs) k).row := r.val.1
  have hb : (qAt (layRects rs) k).bottom ≤ rs.length := by
    rcases r.last with h | ⟨h, k2, _, v, _⟩
    · exact h
    · have := v.2.1; omega
  exact ⟨by omega, s.1, hb, s.2.2⟩
def covN (rs : List RowD) (a : A4) : A4 := iterN (layRects rs) (muA rs.length a) a
theorem covN_cov {rs : List RowD} {a : A4} (h : InA rs.length a) : IsCov (layRects rs) a (covN rs a) := iter_cov rect_in _ a h (Nat.le_refl _)
def InsideA (rs : List RowD) (a : A4) : Prop := 0 ≤ a.t ∧ a.t < a.b ∧ a.b ≤ rs.length ∧ 0 ≤ a.l ∧ a.l < a.r ∧ a.r ≤ widthN rs rs.length
instance (rs : List RowD) (a : A4) : Decidable (InsideA rs a) := by unfold InsideA; infer_instance
theorem InsideA.inA {rs : List RowD} {a : A4} (h : InsideA rs a) : InA rs.length a := by
  have := widthN_le rs rs.length
  unfold InsideA InA at *; omega
theorem width_ge (rs : List RowD) (i : Int) (h0 : 0 ≤ i) (h1 : i < rs.length) : spTo (rAt rs i) (rAt rs i).cells.length ≤ widthN rs rs.length := by
  have key : ∀ n : Nat, i < n → spTo (rAt rs i) (rAt rs i).cells.length ≤ widthN rs n := by
    intro n
    induction n with
    | zero => intro h; omega
    | succ n ih =>
      intro h
      rw [widthN]
      rcases Int.lt_or_eq_of_le (show i ≤ n by omega) with hl | hl
      · have := ih hl; omega
      · rw [← hl]; omega
  exact key rs.length h1
theorem rect_right {rs : List RowD} : ∀ q ∈ layRects rs, q.right ≤ widthN rs rs.length := by
  intro q hq
  obtain ⟨k, hk, rfl⟩ := List.getElem_of_mem hq
  have e : qAt (layRects rs) k = (layRects rs)[k] := by simp [qAt, hk]
  rw [← e]
  have r := (lay_final rs).C (k : Int) (by omega) (by show (k : Int) < ((layRects rs).length : Int); omega)
  have v : Val rs (qAt (layRects rs) k).row (qAt (layRects rs) k).cell := r.val
  have e2 := sAt_eq (rAt rs (qAt (layRects rs) k).row) (qAt (layRects rs) k).cell v.2.2.1 v.2.2.2.1
  have es : sAt (spansR (rAt rs (qAt (layRects rs) k).row)) (qAt (layRects rs) k).cell = _ := r.sp
  rw [es] at e2
  have e3 : (qAt (layRects rs) k).right = spTo (rAt rs (qAt (layRects rs) k).row) ((qAt (layRects rs) k).cell + 1) := congrArg Prod.snd e2
  have hc : (qAt (layRects rs) k).cell < ncN rs (qAt (layRects rs) k).row := v.2.2.2.1
  have hv2 : 0 ≤ (qAt (layRects rs) k).cell := v.2.2.1
  have hm := spTo_monoD (rAt rs (qAt (layRects rs) k).row) ((qAt (layRects rs) k).cell + 1) (by omega) ((rAt rs (qAt (layRects rs) k).row).cells.length - ((qAt (layRects rs) k).cell + 1)).toNat (by unfold ncN at hc; omega)
  rw [show (qAt (layRects rs) k).cell + 1 + (((rAt rs (qAt (layRects rs) k).row).cells.length - ((qAt (layRects rs) k).cell + 1)).toNat : Int) = (rAt rs (qAt (layRects rs) k).row).cells.length by unfold ncN at hc; omega] at hm
  have hw := width_ge rs (qAt (layRects rs) k).row v.1 v.2.1
  have hw := width_ge rs (qAt (layRects rs) k).row v.1 v.2.1
  omega
/-- the cover of an area within the grid lies within it, and is closed -/
theorem cov_inside {rs : List RowD} {a : A4} (h : InsideA rs a) : InsideA rs (covN rs a) := by
  have hc := covN_cov h.inA
  -- the whole grid is closed
  have hw : ClosedA (layRects rs) ⟨0, 0, rs.length, widthN rs rs.length⟩ := fun q hq _ => by
    have := rect_in q hq
    have := rect_right q hq
    unfold SubQ; simp only; omega
  have hl := hc.least ⟨0, 0, rs.length, widthN rs rs.length⟩ (by unfold InsideA LeA at *; simp only; omega) hw
  have h1 := hc.le
  unfold InsideA LeA at *
  simp only at hl
  omega
theorem cov_again {rs : List RowD} {a : A4} (h : InsideA rs a) : covN rs (covN rs a) = covN rs a :=
  (covN_cov (cov_inside h).inA).unique (IsCov.self (covN_cov h.inA).closed)
/-- a rectangle that meets an area has a cell in one of the area's rows -/
theorem meet_cell {rs : List RowD} {q : R6} (hq : q ∈ layRects rs) {a : A4} (hm : MeetQ q a) (hab : a.t < a.b) : ∃ i k, a.t ≤ i ∧ i < a.b ∧ Val rs i k ∧ q = rectN rs i k ∧ (spN rs i k).1 < a.r ∧ a.l < (spN rs i k).2 := by
  obtain ⟨n, hn, rfl⟩ := List.getElem_of_mem hq
  have e : qAt (layRects rs) n = (layRects rs)[n] := by simp [qAt, hn]
  rw [← e] at hm ⊢
  have r := (lay_final rs).C (n : Int) (by omega) (by show (n : Int) < ((layRects rs).length : Int); omega)
  have ht : (qAt (layRects rs) n).top = (qAt (layRects rs) n).row := r.top
  have hrb : (qAt (layRects rs) n).row < (qAt (layRects rs) n).bottom := r.rb
  obtain ⟨h1, h2, h3, h4⟩ := hm
  have hi : ∃ i, i = max (qAt (layRects rs) n).row a.t := ⟨_, rfl⟩
  obtain ⟨i, hi⟩ := hi
  have hc : ∃ k, Val rs i k ∧ Cov (qAt (layRects rs) n) (spN rs i k) i := by
    rcases Int.lt_or_eq_of_le (show (qAt (layRects rs) n).row ≤ i by omega) with hl | hl
    · obtain ⟨k, k', x, y, _⟩ := r.cs i hl (by show i < (qAt (layRects rs) n).bottom; omega)
      exact ⟨k, x, y.symm, by show (qAt (layRects rs) n).row ≤ i; omega, by show i < (qAt (layRects rs) n).bottom; omega⟩
    · rw [← hl]
      exact ⟨(qAt (layRects rs) n).cell, r.val, r.sp.symm, Int.le_refl _, hrb⟩
  obtain ⟨k, v, c⟩ := hc
  have e1 : (qAt (layRects rs) n).left = (spN rs i k).1 := congrArg Prod.fst c.1
  have e2 : (qAt (layRects rs) n).right = (spN rs i k).2 := congrArg Prod.snd c.1
  exact ⟨i, k, by omega, by omega, v, rect_eq r v c, by omega, by omega⟩
theorem rectN_mem {rs : List RowD} {i k : Int} (h : Val rs i k) : rectN rs i k ∈ layRects rs := by
  obtain ⟨n, _, b, c, d⟩ := look_of h
  rw [← d]; exact qAt_mem _ n b c
theorem rectN_row {rs : List RowD} {i k : Int} (h : Val rs i k) : (rectN rs i k).top ≤ i ∧ i < (rectN rs i k).bottom ∧ (rectN rs i k).left = (spN rs i k).1 ∧ (rectN rs i k).right = (spN rs i k).2 ∧ (rectN rs i k).row = (rectN rs i k).top := by
  have hi : ((i.toNat : Nat) : Int) = i := by have := h.1; omega
  have ht := topN_spec rs (spN rs i k) i.toNat (by have := h.1; have := h.2.1; omega)
  have hb := botN_spec rs (spN rs i k) (rs.length - (i.toNat + 1)) (i.toNat + 1) (by have := h.1; have := h.2.1; omega)
  unfold rectN
  simp only
  refine ⟨by have := ht.1; omega, by have := hb.1; omega, trivial, trivial, trivial⟩
end Go.Ob
