import Derived.Test.YtcfnfioefbkamaaDoorS12
set_option linter.unusedVariables false
set_option linter.unusedSimpArgs false
namespace Go.Ob
open Go.Proofs
theorem size_app (s t : ByteArray) : (s ++ t).size = s.size + t.size := by simp
/-! ### strings that are joined -/
theorem byt_app1 (s t : ByteArray) (i : Nat) (h : i < s.size) : byt (s ++ t) i = byt s i := by
  have h' : i < s.data.toList.length := by rw [← Lib.size_eq]; exact h
  unfold byt
  rw [show (s ++ t).data.toList = s.data.toList ++ t.data.toList by simp]
  simp only [List.getD_eq_getElem?_getD]
  rw [List.getElem?_append_left h']
theorem byt_app2 (s t : ByteArray) (i : Nat) : byt (s ++ t) (s.size + i) = byt t i := by
  unfold byt
  rw [show (s ++ t).data.toList = s.data.toList ++ t.data.toList by simp, Lib.size_eq s]
  simp only [List.getD_eq_getElem?_getD]
  rw [List.getElem?_append_right (by omega)]
  congr 3; omega
theorem dc_app1 (s t : ByteArray) (p : Nat) (h : p < s.size) (hb : ¬ BadAt s p) : Utf8.decode (s ++ t) p = Utf8.decode s p := by
  have hw := dc_in s p h
  unfold BadAt at hb
  rw [dc_N] at hw hb
  rw [dc_N (s ++ t), dc_N s, size_app, byt_app1 s t p h]
  exact decodeN_cut (by omega) hb (fun h1 => byt_app1 s t _ (by omega)) (fun h1 => byt_app1 s t _ (by omega)) (fun h1 => byt_app1 s t _ (by omega))
theorem dc_app2 (s t : ByteArray) (p : Nat) : Utf8.decode (s ++ t) (s.size + p) = Utf8.decode t p := by
  rw [dc_N (s ++ t), dc_N t, size_app, byt_app2, Nat.add_assoc, Nat.add_assoc, Nat.add_assoc, byt_app2, byt_app2, byt_app2, show s.size + t.size - (s.size + p) = t.size - p by omega]
theorem rpos_app1 {s : ByteArray} (t : ByteArray) (hok : okS s = true) : ∀ k, k ≤ nR s → rpos (s ++ t) k = rpos s k
  | 0, _ => rfl
  | k + 1, h => by
    have ih := rpos_app1 t hok k (by omega)
    rw [rpos, rpos, ih, dc_app1 s t _ (nR_lt.1 (by omega)) (okS_at hok (by omega))]
theorem rpos_app2 {s : ByteArray} (t : ByteArray) (hok : okS s = true) : ∀ k, rpos (s ++ t) (nR s + k) = s.size + rpos t k
  | 0 => by rw [Nat.add_zero, rpos_app1 t hok _ (Nat.le_refl _), nR_end]; rfl
  | k + 1 => by
    rw [← Nat.add_assoc, rpos, rpos_app2 t hok k, dc_app2, rpos, Nat.add_assoc]
/-- a valid string of these code points -/
structure Run (s : ByteArray) (l : List Int) : Prop where
  ok : okS s = true
  pts : pts s = l
theorem Run.len {s : ByteArray} {l : List Int} (h : Run s l) : nR s = l.length := by rw [← h.pts, pts_len]
theorem Run.cls {s : ByteArray} {l : List Int} (h : Run s l) : cls s = l.map classP := by unfold Go.Ob.cls; rw [h.pts]
theorem Run.nil : Run ⟨#[]⟩ [] := ⟨by decide, by decide⟩
theorem Run.append {s t : ByteArray} {l m : List Int} (hs : Run s l) (ht : Run t m) : Run (s ++ t) (l ++ m) := by
  have hn : nR (s ++ t) = nR s + nR t := (nR_eq (by rw [rpos_app2 t hs.ok, nR_end, size_app])).symm
  have h1 : ∀ k, k < nR s → Utf8.decode (s ++ t) (rpos (s ++ t) k) = Utf8.decode s (rpos s k) := fun k hk => by
    rw [rpos_app1 t hs.ok k (by omega), dc_app1 s t _ (nR_lt.1 hk) (okS_at hs.ok hk)]
  have h2 : ∀ k, Utf8.decode (s ++ t) (rpos (s ++ t) (nR s + k)) = Utf8.decode t (rpos t k) := fun k => by
    rw [rpos_app2 t hs.ok, dc_app2]
  refine ⟨decide_eq_true fun k hk => ?_, ?_⟩
  · rw [hn] at hk
    unfold BadAt
    rcases Nat.lt_or_ge k (nR s) with h | h
    · rw [h1 k h]; exact okS_at hs.ok h
    · obtain ⟨j, rfl⟩ : ∃ j, k = nR s + j := ⟨k - nR s, by omega⟩
      rw [h2 j]; exact okS_at ht.ok (by omega)
  · rw [← hs.pts, ← ht.pts]
    apply List.ext_getElem?
    intro k
    rcases Nat.lt_or_ge k (nR s) with h | h
    · rw [List.getElem?_append_left (by rw [pts_len]; exact h)]
      simp only [Go.Ob.pts, ptsTo, List.getElem?_map, List.getElem?_range (show k < nR (s ++ t) by omega), List.getElem?_range h, Option.map_some, ptN, h1 k h]
    · rw [List.getElem?_append_right (by rw [pts_len]; exact h), pts_len]
      obtain ⟨j, rfl⟩ : ∃ j, k = nR s + j := ⟨k - nR s, by omega⟩
      rw [Nat.add_sub_cancel_left]
      rcases Nat.lt_or_ge j (nR t) with hj | hj
      · simp only [Go.Ob.pts, ptsTo, List.getElem?_map, List.getElem?_range (show nR s + j < nR (s ++ t) by omega), List.getElem?_range hj, Option.map_some, ptN, h2 j]
      · rw [List.getElem?_eq_none (by rw [pts_len]; omega), List.getElem?_eq_none (by rw [pts_len]; omega)]
theorem iAt_app1 (l m : List Int) (k : Nat) (h : k < l.length) : iAt (l ++ m) k = iAt l k := by
  unfold iAt; rw [Int.toNat_natCast]; simp [List.getD_eq_getElem?_getD, List.getElem?_append_left h]
theorem iAt_app2 (l m : List Int) (k : Nat) : iAt (l ++ m) ((l.length + k : Nat) : Int) = iAt m k := by
  unfold iAt; rw [Int.toNat_natCast, Int.toNat_natCast, List.getD_eq_getElem?_getD, List.getD_eq_getElem?_getD, List.getElem?_append_right (by omega), Nat.add_sub_cancel_left]
theorem stL_app (c d : List Int) : ∀ k, k ≤ c.length → stL (c ++ d) k = stL c k
  | 0, _ => rfl
  | k + 1, h => by rw [stL, stL, stL_app c d k (by omega), iAt_app1 c d k (by omega)]
theorem bAt_app (c d : List Int) (k : Nat) (h : k < c.length) : bAt (c ++ d) k = bAt c k := by
  unfold bAt; rw [stL_app c d k (by omega), iAt_app1 c d k h]

/-! ### the clusters of two strings that are joined at a boundary -/
theorem Bk_app (c d : List Int) (k : Nat) (h : k < c.length) : Bk (c ++ d) k ↔ Bk c k := by unfold Bk; rw [bAt_app c d k h]
theorem lastB_app (c d : List Int) : ∀ k, k ≤ c.length → lastB (c ++ d) k = lastB c k
  | 0, _ => rfl
  | k + 1, h => by
    rw [lastB, lastB, lastB_app c d k (by omega)]
    by_cases hb : Bk c k
    · rw [if_pos hb, if_pos ((Bk_app c d k h).2 hb)]
    · rw [if_neg hb, if_neg (fun e => hb ((Bk_app c d k h).1 e))]
theorem cTo_app (c d : List Int) : ∀ k, k ≤ c.length → cTo (c ++ d) k = cTo c k
  | 0, _ => rfl
  | k + 1, h => by
    rw [cTo, cTo, cTo_app c d k (by omega), lastB_app c d k (by omega)]
    by_cases hb : Bk c k
    · rw [if_pos hb, if_pos ((Bk_app c d k h).2 hb)]
    · rw [if_neg hb, if_neg (fun e => hb ((Bk_app c d k h).1 e))]
def shP (n : Nat) (p : Nat × Nat) : Nat × Nat := (n + p.1, n + p.2)
theorem cTo_join {c d : List Int} (hb : Bk (c ++ d) c.length) : ∀ j, cTo (c ++ d) (c.length + (j + 1)) = cTo c c.length ++ [(lastB c c.length, c.length)] ++ (cTo d (j + 1)).map (shP c.length) ∧ lastB (c ++ d) (c.length + (j + 1)) = c.length + lastB d (j + 1)
  | 0 => by
    have h0 : ¬ Bk d 0 := fun h => absurd h.1 (by omega)
    rw [show c.length + (0 + 1) = c.length + 1 from rfl, cTo, lastB, if_pos hb, if_pos hb, cTo_app c d _ (Nat.le_refl _), lastB_app c d _ (Nat.le_refl _)]
    rw [cTo.eq_2 d 0, lastB.eq_2 d 0, if_neg h0, if_neg h0]
    exact ⟨by simp [cTo], rfl⟩
  | j + 1 => by
    obtain ⟨h1, h2⟩ := cTo_join hb j
    have hbd : bAt ((c ++ d).drop c.length) (j + 1) = bAt (c ++ d) (c.length + (j + 1)) := bAt_drop (.inr hb) (j + 1) (by omega)
    rw [List.drop_left] at hbd
    have hk : Bk (c ++ d) (c.length + (j + 1)) ↔ Bk d (j + 1) := by
      unfold Bk; rw [hbd]; exact ⟨fun h => ⟨by omega, h.2⟩, fun h => ⟨by omega, h.2⟩⟩
    rw [show c.length + (j + 1 + 1) = (c.length + (j + 1)) + 1 from rfl, cTo, lastB, cTo.eq_2 d (j + 1), lastB.eq_2 d (j + 1), h1, h2]
    by_cases hq : Bk d (j + 1)
    · rw [if_pos (hk.2 hq), if_pos (hk.2 hq), if_pos hq, if_pos hq]
      exact ⟨by simp [shP], rfl⟩
    · rw [if_neg (fun e => hq (hk.1 e)), if_neg (fun e => hq (hk.1 e)), if_neg hq, if_neg hq]
      exact ⟨rfl, rfl⟩
theorem cAll_join {c d : List Int} (hc : 0 < c.length) (hd : 0 < d.length) (hb : Bk (c ++ d) c.length) : cAll (c ++ d) = cAll c ++ (cAll d).map (shP c.length) := by
  obtain ⟨j, hj⟩ : ∃ j, d.length = j + 1 := ⟨d.length - 1, by omega⟩
  obtain ⟨h1, h2⟩ := cTo_join hb j
  unfold cAll
  rw [List.length_append, hj, h1, h2, if_pos (by omega), if_pos hc, if_pos (by omega)]
  simp [shP]
theorem run_of {s : ByteArray} (h : okS s = true) : Run s (pts s) := ⟨h, rfl⟩
theorem cls_app {s t : ByteArray} (hs : okS s = true) (ht : okS t = true) : okS (s ++ t) = true ∧ cls (s ++ t) = cls s ++ cls t := by
  have h := (run_of hs).append (run_of ht)
  refine ⟨h.ok, ?_⟩
  unfold Go.Ob.cls
  rw [h.pts, List.map_append]
/-! ### token lists in parts -/
structure Cat (c ca cb : List Int) : Prop where
  len : c.length = ca.length + 1 + cb.length
  a : ∀ k : Nat, k < ca.length → iAt c k = iAt ca k
  m : iAt c (ca.length : Nat) = 1
  b : ∀ k : Nat, iAt c ((ca.length + 1 + k : Nat) : Int) = iAt cb k
theorem Cat.insA {c ca cb : List Int} (h : Cat c ca cb) {k : Nat} (hk : k < ca.length) : InsP c k ↔ InsP ca k := by
  have h1 : atI c ((k : Int) - 1) = atI ca ((k : Int) - 1) := by
    rcases Nat.eq_zero_or_pos k with e | e
    · subst e; rw [atI_out (.inl (by omega)), atI_out (.inl (by omega))]
    · have := h.a (k - 1) (by omega)
      rw [show (((k - 1 : Nat)) : Int) = (k : Int) - 1 by omega] at this
      rw [atI_in (by omega) (by have := h.len; omega), atI_in (by omega) (by omega), this]
  have h2 : (atI c ((k : Int) + 1) = 5 ↔ atI ca ((k : Int) + 1) = 5) ∧ (atI c ((k : Int) + 1) = 6 ↔ atI ca ((k : Int) + 1) = 6) := by
    rcases Nat.lt_or_ge (k + 1) ca.length with e | e
    · have := h.a (k + 1) e
      rw [show (((k + 1 : Nat)) : Int) = (k : Int) + 1 by omega] at this
      rw [atI_in (by omega) (by have := h.len; omega), atI_in (by omega) (by omega), this]; exact ⟨Iff.rfl, Iff.rfl⟩
    · have := h.m
      rw [show ((ca.length : Nat) : Int) = (k : Int) + 1 by omega] at this
      rw [atI_in (by omega) (by have := h.len; omega), atI_out (.inr (by omega)), this]; omega
  unfold InsP
  rw [h.a k hk, h1, h2.1, h2.2]
theorem Cat.insB {c ca cb : List Int} (h : Cat c ca cb) {k : Nat} (h0 : 1 ≤ k) (hk : k < cb.length) : InsP c (ca.length + 1 + k) ↔ InsP cb k := by
  have hl := h.len
  have h1 : atI c (((ca.length + 1 + k : Nat) : Int) - 1) = atI cb ((k : Int) - 1) := by
    have := h.b (k - 1)
    rw [show ((ca.length + 1 + (k - 1) : Nat) : Int) = ((ca.length + 1 + k : Nat) : Int) - 1 by omega, show (((k - 1 : Nat)) : Int) = (k : Int) - 1 by omega] at this
    rw [atI_in (by omega) (by omega), atI_in (by omega) (by omega), this]
  have h2 : atI c (((ca.length + 1 + k : Nat) : Int) + 1) = atI cb ((k : Int) + 1) := by
    rcases Nat.lt_or_ge (k + 1) cb.length with e | e
    · have := h.b (k + 1)
      rw [show ((ca.length + 1 + (k + 1) : Nat) : Int) = ((ca.length + 1 + k : Nat) : Int) + 1 by omega, show (((k + 1 : Nat)) : Int) = (k : Int) + 1 by omega] at this
      rw [atI_in (by omega) (by omega), atI_in (by omega) (by omega), this]
    · rw [atI_out (.inr (by omega)), atI_out (.inr (by omega))]
  unfold InsP
  rw [h.b k, h1, h2]
theorem scan_A {p q : Nat → Bool} {n m k : Nat} (hk : k ≤ m) (hm : m < n) (he : ∀ j, k ≤ j → j < m → p j = q j) (hs : p m = false) : scanF p n k = scanF q m k := by
  obtain ⟨s1, s2, s3, s4⟩ := scanF_spec q hk
  refine scanF_eq s1 (by omega) (fun j a b => ?_) ?_
  · rw [he j a (by omega)]; exact s3 j a b
  · rcases Nat.lt_or_ge (scanF q m k) m with h | h
    · rcases s4 with s4 | s4
      · omega
      · right; rw [he _ s1 h]; exact s4
    · right; rw [show scanF q m k = m by omega]; exact hs
theorem scan_B {p q : Nat → Bool} {n m k o : Nat} (hk : k ≤ m) (hn : n = o + m) (he : ∀ j, k ≤ j → j < m → p (o + j) = q j) : scanF p n (o + k) = o + scanF q m k := by
  obtain ⟨s1, s2, s3, s4⟩ := scanF_spec q hk
  refine scanF_eq (by omega) (by omega) (fun j a b => ?_) ?_
  · have := s3 (j - o) (by omega) (by omega)
    rw [← he (j - o) (by omega) (by omega), show o + (j - o) = j by omega] at this
    exact this
  · rcases Nat.lt_or_ge (scanF q m k) m with h | h
    · rcases s4 with s4 | s4
      · omega
      · right; rw [he _ s1 h]; exact s4
    · left; omega
theorem Cat.endA {c ca cb : List Int} (h : Cat c ca cb) {i : Nat} (hi : i < ca.length) : endT c i = endT ca i := by
  have hl := h.len
  have hm1 : ¬ InsP c ca.length := by unfold InsP; rw [h.m]; omega
  have hm2 : ¬ BlkP c ca.length := by unfold BlkP; rw [h.m]; omega
  have hw : WrdP c i = WrdP ca i := by unfold WrdP; rw [h.a i hi]
  have hb : BlkP c i = BlkP ca i := by unfold BlkP; rw [h.a i hi]
  unfold endT
  rw [scan_A (p := fun k => decide (InsP c k)) (q := fun k => decide (InsP ca k)) (m := ca.length) (by omega) (by omega) (fun j _ b => by simp only [decide_eq_decide]; exact h.insA b) (decide_eq_false hm1),
    scan_A (p := fun k => decide (BlkP c k)) (q := fun k => decide (BlkP ca k)) (m := ca.length) (by omega) (by omega) (fun j _ b => by simp only [decide_eq_decide]; unfold BlkP; rw [h.a j b]) (decide_eq_false hm2)]
  simp only [hw, hb]
theorem Cat.endB {c ca cb : List Int} (h : Cat c ca cb) {i : Nat} (hi : i < cb.length) : endT c (ca.length + 1 + i) = ca.length + 1 + endT cb i := by
  have hl := h.len
  have hw : WrdP c (ca.length + 1 + i) = WrdP cb i := by unfold WrdP; rw [h.b i]
  have hb : BlkP c (ca.length + 1 + i) = BlkP cb i := by unfold BlkP; rw [h.b i]
  unfold endT
  rw [Nat.add_assoc (ca.length + 1) i 1, scan_B (p := fun k => decide (InsP c k)) (q := fun k => decide (InsP cb k)) (m := cb.length) (by omega) (by omega) (fun j a b => by simp only [decide_eq_decide]; exact h.insB (by omega) b),
    scan_B (p := fun k => decide (BlkP c k)) (q := fun k => decide (BlkP cb k)) (m := cb.length) (by omega) (by omega) (fun j _ b => by simp only [decide_eq_decide]; unfold BlkP; rw [h.b j])]
  simp only [hw, hb]
  repeat' split
  all_goals rfl
theorem Cat.mid {c ca cb : List Int} (h : Cat c ca cb) : endT c ca.length = ca.length + 1 ∧ kindT c ca.length = 6 := by
  have hw : ¬ WrdP c ca.length := by unfold WrdP; rw [h.m]; omega
  have hb : ¬ BlkP c ca.length := by unfold BlkP; rw [h.m]; omega
  refine ⟨endO_eq hw hb, ?_⟩
  unfold kindT; rw [if_neg hw, if_neg hb, if_pos h.m]
theorem wk_congr {c d : List Int} {i k : Nat} : ∀ n, (∀ j, j < n → iAt c ((i + j : Nat) : Int) = iAt d ((k + j : Nat) : Int)) → wkTo c i n = wkTo d k n
  | 0, _ => rfl
  | n + 1, h => by rw [wkTo, wkTo, h n (by omega), wk_congr n (fun j hj => h j (by omega))]
theorem Cat.kindA {c ca cb : List Int} (h : Cat c ca cb) {i : Nat} (hi : i < ca.length) : kindT c i = kindT ca i := by
  have hw : WrdP c i = WrdP ca i := by unfold WrdP; rw [h.a i hi]
  have hb : BlkP c i = BlkP ca i := by unfold BlkP; rw [h.a i hi]
  have he := endT_spec hi
  unfold kindT
  rw [h.endA hi, wk_congr (c := c) (d := ca) (i := i) (k := i) _ (fun j hj => h.a (i + j) (by omega)), h.a i hi]
  simp only [hw, hb]
theorem Cat.kindB {c ca cb : List Int} (h : Cat c ca cb) {i : Nat} (hi : i < cb.length) : kindT c (ca.length + 1 + i) = kindT cb i := by
  have hw : WrdP c (ca.length + 1 + i) = WrdP cb i := by unfold WrdP; rw [h.b i]
  have hb : BlkP c (ca.length + 1 + i) = BlkP cb i := by unfold BlkP; rw [h.b i]
  have he := endT_spec hi
  unfold kindT
  rw [h.endB hi, show ca.length + 1 + endT cb i - (ca.length + 1 + i) = endT cb i - i by omega, wk_congr (c := c) (d := cb) (i := ca.length + 1 + i) (k := i) _ (fun j hj => by rw [Nat.add_assoc]; exact h.b (i + j)), h.b i]
  simp only [hw, hb]
theorem Cat.posA {c ca cb : List Int} (h : Cat c ca cb) : ∀ m, m ≤ nT ca → posT c m = posT ca m
  | 0, _ => rfl
  | m + 1, hm => by
    have h1 := nT_lt.1 (show m < nT ca from hm)
    have hl := h.len
    rw [posT, posT, h.posA m (by omega), if_pos h1, if_pos (by omega), h.endA h1]
theorem Cat.posB {c ca cb : List Int} (h : Cat c ca cb) : ∀ j, posT c (nT ca + 1 + j) = ca.length + 1 + posT cb j
  | 0 => by
    have hl := h.len
    have h1 : posT c (nT ca) = ca.length := by rw [h.posA _ (Nat.le_refl _), nT_end]
    rw [Nat.add_zero, posT.eq_2 c, h1, if_pos (by omega), h.mid.1]; rfl
  | j + 1 => by
    have hl := h.len
    rw [← Nat.add_assoc, posT, h.posB j, posT]
    by_cases hj : posT cb j < cb.length
    · rw [if_pos hj, if_pos (by omega), h.endB hj]
    · rw [if_neg hj, if_neg (by omega)]
theorem Cat.nT {c ca cb : List Int} (h : Cat c ca cb) : nT c = nT ca + 1 + nT cb := by
  have hl := h.len
  refine nT_eq (fun j hj => ?_) ?_
  · rcases Nat.lt_trichotomy j (Go.Ob.nT ca) with e | e | e
    · rw [h.posA j (by omega)]; have := nT_lt.1 e; omega
    · subst e; rw [h.posA _ (Nat.le_refl _), nT_end]; omega
    · obtain ⟨k, rfl⟩ : ∃ k, j = Go.Ob.nT ca + 1 + k := ⟨j - (Go.Ob.nT ca + 1), by omega⟩
      rw [h.posB k]; have := nT_lt.1 (show k < Go.Ob.nT cb by omega); omega
  · rw [h.posB, nT_end]; omega
/-- bounds in parts -/
structure Bat (b ba bb : List Int) (la lb : Nat) (n : Int) : Prop where
  a : ∀ k : Nat, k ≤ la → iAt b k = iAt ba k
  b : ∀ k : Nat, k ≤ lb → iAt b ((la + 1 + k : Nat) : Int) = iAt bb k + n
def sh3 (n : Int) (x : Int × Int × Int) : Int × Int × Int := (x.1, x.2.1 + n, x.2.2 + n)
def sh2 (n : Int) (x : Int × Int) : Int × Int := (x.1 + n, x.2)
theorem tok_cat {c ca cb b ba bb : List Int} {n : Int} (h : Cat c ca cb) (hb : Bat b ba bb ca.length cb.length n) (hn : iAt ba (ca.length : Nat) = n - 1) (hz : iAt bb 0 = 0) : tokI c b = tokI ca ba ++ [(6, n - 1, n)] ++ (tokI cb bb).map (sh3 n) := by
  unfold tokI
  rw [h.nT, List.range_add, List.range_succ, List.map_append, List.map_append, List.map_map, List.map_map]
  congr 1
  · congr 1
    · refine List.map_congr_left fun m hm => ?_
      have h1 := List.mem_range.1 hm
      have h2 := nT_lt.1 h1
      rw [h.posA m (by omega), h.posA (m + 1) (by omega), h.kindA h2, hb.a _ (by omega), hb.a _ (posT_le ca (m + 1))]
    · have e0 : posT c (Go.Ob.nT ca) = ca.length := by rw [h.posA _ (Nat.le_refl _), nT_end]
      have e1 : posT c (Go.Ob.nT ca + 1) = ca.length + 1 + 0 := by have := h.posB 0; rwa [Nat.add_zero] at this
      simp only [List.map_cons, List.map_nil]
      rw [e0, e1, h.mid.2, hb.a _ (Nat.le_refl _), hn, hb.b 0 (Nat.zero_le _), show iAt bb ((0 : Nat) : Int) = 0 from hz, Int.zero_add]
  · refine List.map_congr_left fun m hm => ?_
    have h1 := List.mem_range.1 hm
    have h2 := nT_lt.1 h1
    simp only [Function.comp_apply, sh3]
    rw [h.posB m, Nat.add_assoc (Go.Ob.nT ca + 1) m 1, h.posB (m + 1), h.kindB h2, hb.b _ (by omega), hb.b _ (posT_le cb (m + 1))]
theorem Cat.brkA {c ca cb : List Int} (h : Cat c ca cb) {i : Nat} (hi : i + 1 < ca.length) : brk c i = brk ca i := by
  have h0 := h.a i (by omega)
  have h1 := h.a (i + 1) hi
  rw [show (((i + 1 : Nat)) : Int) = (i : Int) + 1 by omega] at h1
  have h2 : atI c ((i : Int) - 1) = atI ca ((i : Int) - 1) := by
    rcases Nat.eq_zero_or_pos i with e | e
    · subst e; rw [atI_out (.inl (by omega)), atI_out (.inl (by omega))]
    · have := h.a (i - 1) (by omega)
      rw [show (((i - 1 : Nat)) : Int) = (i : Int) - 1 by omega] at this
      rw [atI_in (by omega) (by have := h.len; omega), atI_in (by omega) (by omega), this]
  have hs : SpP c i ↔ SpP ca i := by unfold SpP; rw [h0, h1, h2]
  rw [brk_eq, brk_eq, h0, h1]
  unfold brkP
  simp only [hs]
theorem Cat.brkB {c ca cb : List Int} (h : Cat c ca cb) {i : Nat} (hi : i + 1 < cb.length) : brk c (ca.length + 1 + i) = brk cb i := by
  have h0 := h.b i
  have h1 := h.b (i + 1)
  rw [show ((ca.length + 1 + (i + 1) : Nat) : Int) = ((ca.length + 1 + i : Nat) : Int) + 1 by omega, show (((i + 1 : Nat)) : Int) = (i : Int) + 1 by omega] at h1
  have hl := h.len
  have h2 : (atI c (((ca.length + 1 + i : Nat) : Int) - 1) = 5 ↔ atI cb ((i : Int) - 1) = 5) ∧ (atI c (((ca.length + 1 + i : Nat) : Int) - 1) = 6 ↔ atI cb ((i : Int) - 1) = 6) := by
    rcases Nat.eq_zero_or_pos i with e | e
    · subst e
      have := h.m
      rw [atI_in (by omega) (by omega), atI_out (.inl (by omega)), show (((ca.length + 1 + 0 : Nat) : Int) - 1) = (ca.length : Nat) by omega, this]; omega
    · have := h.b (i - 1)
      rw [show ((ca.length + 1 + (i - 1) : Nat) : Int) = ((ca.length + 1 + i : Nat) : Int) - 1 by omega, show (((i - 1 : Nat)) : Int) = (i : Int) - 1 by omega] at this
      rw [atI_in (by omega) (by omega), atI_in (by omega) (by omega), this]; exact ⟨Iff.rfl, Iff.rfl⟩
  have hs : SpP c (ca.length + 1 + i) ↔ SpP cb i := by unfold SpP; rw [h0, h1, h2.1, h2.2]
  rw [brk_eq, brk_eq, h0, h1]
  unfold brkP
  simp only [hs]
theorem brk_cat {c ca cb b ba bb : List Int} {n : Int} (h : Cat c ca cb) (hb : Bat b ba bb ca.length cb.length n) (hn : iAt ba (ca.length : Nat) = n - 1) (hz : iAt bb 0 = 0) :
    brkI c b (c.length - 1) = brkI ca ba (ca.length - 1) ++ (if 0 < ca.length ∧ iAt ca ((ca.length : Int) - 1) = 1 then [(n - 1, 2)] else []) ++ (if 0 < cb.length then [(n, 2)] else []) ++ (brkI cb bb (cb.length - 1)).map (sh2 n) := by
  have hl := h.len
  have p1 : ∀ i, i + 1 ≤ ca.length → brkI c b i = brkI ca ba i := by
    intro i
    induction i with
    | zero => intro _; rfl
    | succ i ih => intro hi; rw [brkI, brkI, ih (by omega), h.brkA (by omega), hb.a (i + 1) (by omega)]
  have p2 : brkI c b ca.length = brkI ca ba (ca.length - 1) ++ (if 0 < ca.length ∧ iAt ca ((ca.length : Int) - 1) = 1 then [(n - 1, 2)] else []) := by
    rcases Nat.eq_zero_or_pos ca.length with e | e
    · rw [e]; rfl
    · obtain ⟨k, hk⟩ : ∃ k, ca.length = k + 1 := ⟨ca.length - 1, by omega⟩
      have e1 := h.a k (by omega)
      have e2 := h.m
      rw [hk] at e2 hn
      have hbk : brk c k = if iAt ca (k : Nat) = 1 then 2 else 0 := by
        rw [brk_eq, show ((k : Nat) : Int) + 1 = ((k + 1 : Nat) : Int) by omega, e1, e2]
        unfold brkP
        split
        · rfl
        · rw [if_pos (.inl rfl)]
      rw [hk, show (k + 1 - 1) = k by omega, brkI, p1 k (by omega), hbk, hb.a (k + 1) (by omega), hn, show (((k + 1 : Nat)) : Int) - 1 = (k : Nat) by omega]
      congr 1
      by_cases hq : iAt ca (k : Nat) = 1
      · rw [if_pos hq, if_pos (by decide), if_pos ⟨by omega, hq⟩]
      · rw [if_neg hq, if_neg (by decide), if_neg (fun x => hq x.2)]
  rw [← p2]
  rcases Nat.eq_zero_or_pos cb.length with e | e
  · rw [e, show c.length - 1 = ca.length by omega, if_neg (by omega)]
    simp [brkI]
  · have p3 : brkI c b (ca.length + 1) = brkI c b ca.length ++ [(n, 2)] := by
      have hbk : brk c ca.length = 2 := by rw [brk_eq, h.m]; rfl
      rw [brkI, hbk, if_pos (by decide), show ((ca.length + 1 : Nat) : Int) = ((ca.length + 1 + 0 : Nat) : Int) from rfl, hb.b 0 (Nat.zero_le _), show iAt bb ((0 : Nat) : Int) = 0 from hz, Int.zero_add]
    have p4 : ∀ j, j + 1 ≤ cb.length → brkI c b (ca.length + 1 + j) = brkI c b (ca.length + 1) ++ (brkI cb bb j).map (sh2 n) := by
      intro j
      induction j with
      | zero => intro _; simp [brkI]
      | succ j ih =>
        intro hj
        have hbx := hb.b (j + 1) (by omega)
        rw [← Nat.add_assoc, brkI.eq_2 c b (ca.length + 1 + j), ih (by omega), h.brkB (by omega), brkI.eq_2 cb bb j, List.map_append, List.append_assoc, show ((ca.length + 1 + j + 1 : Nat) : Int) = ((ca.length + 1 + (j + 1) : Nat) : Int) by omega, hbx]
        congr 2
        split <;> simp [sh2]
    rw [if_pos e, show c.length - 1 = ca.length + 1 + (cb.length - 1) by omega, p4 _ (by omega), p3]
/-! ### strings that are joined at a boundary -/
theorem cAll_e : cAll [] = [] := rfl
theorem cAll_join' {c d : List Int} (hb : 0 < c.length → 0 < d.length → Bk (c ++ d) c.length) : cAll (c ++ d) = cAll c ++ (cAll d).map (shP c.length) := by
  rcases Nat.eq_zero_or_pos c.length with e | e
  · obtain rfl := List.eq_nil_of_length_eq_zero e
    rw [List.nil_append, cAll_e, List.nil_append]
    have hid : ∀ l : List (Nat × Nat), l.map (shP ([] : List Int).length) = l := fun l => by
      induction l with
      | nil => rfl
      | cons x l ih => rw [List.map_cons, ih]; congr 1; show (0 + x.1, 0 + x.2) = x; rw [Nat.zero_add, Nat.zero_add]
    rw [hid]
  · rcases Nat.eq_zero_or_pos d.length with f | f
    · obtain rfl := List.eq_nil_of_length_eq_zero f
      rw [List.append_nil, cAll_e, List.map_nil, List.append_nil]
    · exact cAll_join e f (hb e f)
theorem iAt_ends (l : List (Nat × Nat)) (k : Nat) : iAt (ends l) ((k + 1 : Nat) : Int) = (((l.getD k (0, 0)).2 : Nat) : Int) := by
  unfold iAt ends
  rw [Int.toNat_natCast, List.getD_cons_succ]
  simp only [List.getD_eq_getElem?_getD, List.getElem?_map]
  cases l[k]? <;> rfl
structure Jn (s t : ByteArray) : Prop where
  ok : okS (s ++ t) = true
  n : nR (s ++ t) = nR s + nR t
  cls : cls (s ++ t) = cls s ++ cls t
  sc : scL (s ++ t) = scL s ++ scL t
  a : ∀ k : Nat, k ≤ (scL s).length → iAt (bnds (Go.Ob.cls (s ++ t))) k = iAt (bnds (Go.Ob.cls s)) k
  b : ∀ k : Nat, k ≤ (scL t).length → iAt (bnds (Go.Ob.cls (s ++ t))) (((scL s).length + k : Nat) : Int) = iAt (bnds (Go.Ob.cls t)) k + nR s
theorem join2 {s t : ByteArray} (hs : okS s = true) (ht : okS t = true) (hb : 0 < nR s → 0 < nR t → Bk (cls s ++ cls t) (cls s).length) : Jn s t := by
  obtain ⟨hok, hcl⟩ := cls_app hs ht
  have hp : pts (s ++ t) = pts s ++ pts t := ((run_of hs).append (run_of ht)).pts
  have hn : nR (s ++ t) = nR s + nR t := by rw [← pts_len, hp, List.length_append, pts_len, pts_len]
  have hX : cAll (cls (s ++ t)) = cAll (cls s) ++ (cAll (cls t)).map (shP (nR s)) := by
    rw [hcl, ← cls_len s]
    exact cAll_join' (fun a b => hb (by rw [cls_len] at a; exact a) (by rw [cls_len] at b; exact b))
  have hls := scL_len s
  have hlt := scL_len t
  have hA : ∀ k : Nat, k ≤ (scL s).length → iAt (bnds (cls (s ++ t))) k = iAt (bnds (cls s)) k := by
    intro k hk
    cases k with
    | zero => show iAt (bnds _) 0 = iAt (bnds _) 0; rw [bnds_zero, bnds_zero]
    | succ k =>
      unfold bnds
      rw [iAt_ends, iAt_ends, hX]
      simp only [List.getD_eq_getElem?_getD]
      rw [List.getElem?_append_left (by omega)]
  have hB : ∀ k : Nat, k ≤ (scL t).length → iAt (bnds (cls (s ++ t))) (((scL s).length + k : Nat) : Int) = iAt (bnds (cls t)) k + nR s := by
    intro k hk
    cases k with
    | zero =>
      rw [Nat.add_zero, hA _ (Nat.le_refl _), hls, bnds_endS]
      show _ = iAt (bnds (cls t)) 0 + _
      rw [bnds_zero, Int.zero_add]
    | succ k =>
      unfold bnds
      rw [← Nat.add_assoc, iAt_ends, iAt_ends, hX]
      simp only [List.getD_eq_getElem?_getD]
      rw [List.getElem?_append_right (by omega), hls, Nat.add_sub_cancel_left, List.getElem?_map, List.getElem?_eq_getElem (show k < (cAll (cls t)).length by omega)]
      simp only [Option.map_some, Option.getD_some, shP]
      omega
  refine ⟨hok, hn, hcl, ?_, hA, hB⟩
  unfold scL
  rw [hX, List.length_append, List.length_map, List.range_add, List.map_append, List.map_map]
  congr 1
  · refine List.map_congr_left fun i hi => ?_
    have h1 := List.mem_range.1 hi
    rw [hA i (by omega), hp]
    have hbl : (bnds (cls s)).length = (cAll (cls s)).length + 1 := ends_len _
    have h2 := bnds_le (cls s) i (by omega) (by omega)
    have h3 := inc_iAtS (inc_bnds (cls s)) (show i < (cAll (cls s)).length from h1) (by omega)
    rw [bnds_endS] at h3
    obtain ⟨x, hx⟩ : ∃ x : Nat, iAt (bnds (cls s)) ((i : Nat) : Int) = x := ⟨(iAt (bnds (cls s)) ((i : Nat) : Int)).toNat, by omega⟩
    rw [hx] at h3 ⊢
    rw [iAt_app1 _ _ _ (by rw [pts_len]; omega)]
  · refine List.map_congr_left fun i hi => ?_
    have h1 := List.mem_range.1 hi
    simp only [Function.comp_apply]
    rw [← hls, hB i (by omega), hp]
    have hbl : (bnds (cls t)).length = (cAll (cls t)).length + 1 := ends_len _
    have h2 := bnds_le (cls t) i (by omega) (by omega)
    obtain ⟨x, hx⟩ : ∃ x : Nat, iAt (bnds (cls t)) ((i : Nat) : Int) = x := ⟨(iAt (bnds (cls t)) ((i : Nat) : Int)).toNat, by omega⟩
    rw [hx, show (x : Int) + (nR s : Int) = (((pts s).length + x : Nat) : Int) by rw [pts_len]; omega, iAt_app2]
/-! ### a line feed between two strings -/
def lfS : ByteArray := ⟨#[10]⟩
theorem run_lf : Run lfS [10] := ⟨by decide +kernel, by decide +kernel⟩
theorem cls_lf : cls lfS = [2] := by decide +kernel
theorem sc_lf : scL lfS = [1] := by decide +kernel
theorem clsIn_one (p : Int) : ∀ l : List Span, (∀ e ∈ l, e.2.2 = 1 → e.1 = 13 ∧ e.2.1 = 13) → clsIn l p = 1 → p = 13
  | [], _, h => by rw [clsIn] at h; omega
  | e :: l, hl, h => by
    rw [clsIn] at h
    split at h
    · rename_i hi
      have h1 := of_decide_eq_true hi
      have h2 := hl e (List.mem_cons_self ..) h
      omega
    · exact clsIn_one p l (fun x hx => hl x (List.mem_cons_of_mem _ hx)) h
theorem tabG_cr : ∀ e ∈ tabG, e.2.2 = 1 → e.1 = 13 ∧ e.2.1 = 13 := by decide +kernel
theorem class_one {p : Int} (h : classP p = 1) : p = 13 := by
  unfold classP at h
  split at h
  · split at h <;> omega
  · exact clsIn_one p tabG tabG_cr h
theorem last_cr {s : ByteArray} (hok : okS s = true) {k : Nat} (hk : nR s = k + 1) (h : iAt (cls s) (k : Nat) = 1) : byt s (s.size - 1) = 13 := by
  have hkk : k < nR s := by omega
  have e : iAt (cls s) (k : Nat) = classP (ptN s k) := by
    unfold iAt cls
    rw [Int.toNat_natCast]
    simp [List.getD_eq_getElem?_getD, pts, ptsTo, hkk]
  rw [e] at h
  have hp := class_one h
  obtain ⟨q1, q2, q3, q4⟩ := dec_rest hok (nR_lt.1 hkk)
  obtain ⟨n, hn, n1, n4, hin, hct, hpb, hd1, hd2⟩ := dec_ok q1 q2
  rw [hd1, hp] at q3
  rw [q3] at hpb
  have hl2 : iAt leastL ((2 : Nat) : Int) = 128 := rfl
  have hl3 : iAt leastL ((3 : Nat) : Int) = 2048 := rfl
  have hl4 : iAt leastL ((4 : Nat) : Int) = 65536 := rfl
  have hn1 : n = 1 := by
    unfold PtBad at hpb
    have hi : n = 1 ∨ n = 2 ∨ n = 3 ∨ n = 4 := by omega
    rcases hi with rfl | rfl | rfl | rfl <;> omega
  subst hn1
  rw [hd2, ← hk, nR_end] at q4
  have hld := sh_lead (by omega) hn (Int.le_refl 1)
  rw [accR1] at q3
  have hbx : byt (s.extract (rpos s k) s.size) 0 = byt s (rpos s k + 0) := byt_extract s _ _ _ (by omega) (Nat.le_refl _)
  rw [Nat.add_zero] at hbx
  rw [show s.size - 1 = rpos s k by omega, ← hbx]
  omega
theorem bk_two {c : List Int} {k : Nat} (h : (iAt c (k : Nat) ≠ 1 ∧ iAt c ((k + 1 : Nat) : Int) = 2) ∨ iAt c (k : Nat) = 2) : Bk c (k + 1) := by
  refine ⟨by omega, ?_⟩
  unfold bAt
  rw [st_before]
  unfold bd
  rcases h with ⟨h1, h2⟩ | h
  · rw [if_neg (fun x => h1 x.1), if_pos (.inr (.inr (.inl h2)))]
  · rw [if_neg (fun x => by omega), if_pos (.inl (.inr (.inl h)))]
def TI (s : ByteArray) : List (Int × Int × Int) := tokI (scL s) (bnds (cls s))
def BI (s : ByteArray) : List (Int × Int) := brkI (scL s) (bnds (cls s)) ((scL s).length - 1)
theorem tokV_TI {s : ByteArray} (h : okS s = true) : tokV s = (TI s).map e3 := by unfold tokV TI; rw [if_pos h, tokI_enc]
theorem brkV_BI {s : ByteArray} (h : okS s = true) : brkV s = (BI s).map e2 := by unfold brkV BI; rw [if_pos h, brkI_enc]
theorem joined {a b : ByteArray} (ha : okS a = true) (hb : okS b = true) (hcr : 0 < a.size → byt a (a.size - 1) ≠ 13) :
    okS (a ++ lfS ++ b) = true ∧ TI (a ++ lfS ++ b) = TI a ++ [(6, (nR a : Int) + 1 - 1, (nR a : Int) + 1)] ++ (TI b).map (sh3 ((nR a : Int) + 1)) ∧
    BI (a ++ lfS ++ b) = BI a ++ (if 0 < (scL a).length ∧ iAt (scL a) (((scL a).length : Int) - 1) = 1 then [((nR a : Int) + 1 - 1, 2)] else []) ++ (if 0 < (scL b).length then [((nR a : Int) + 1, 2)] else []) ++ (BI b).map (sh2 ((nR a : Int) + 1)) := by
  have j1 : Jn a lfS := by
    refine join2 ha run_lf.ok (fun h0 _ => ?_)
    obtain ⟨k, hk⟩ : ∃ k, nR a = k + 1 := ⟨nR a - 1, by omega⟩
    rw [cls_len, hk, cls_lf]
    have hlen : (cls a).length = k + 1 := by rw [cls_len, hk]
    refine bk_two (.inl ⟨?_, ?_⟩)
    · rw [iAt_app1 _ _ _ (by omega)]
      intro h
      have hs := nR_le a
      exact hcr (by omega) (last_cr ha hk h)
    · have := iAt_app2 (cls a) [2] 0
      rw [hlen, Nat.add_zero] at this
      rw [this]; rfl
  have hn1 : nR (a ++ lfS) = nR a + 1 := by rw [j1.n]; rw [run_lf.len]; rfl
  have hc1 : cls (a ++ lfS) = cls a ++ [2] := by rw [j1.cls, cls_lf]
  have hs1 : scL (a ++ lfS) = scL a ++ [1] := by rw [j1.sc, sc_lf]
  have j2 : Jn (a ++ lfS) b := by
    refine join2 j1.ok hb (fun _ _ => ?_)
    rw [cls_len, hn1]
    refine bk_two (.inr ?_)
    rw [iAt_app1 _ _ _ (by rw [cls_len, hn1]; omega), hc1]
    have := iAt_app2 (cls a) [2] 0
    rw [cls_len, Nat.add_zero] at this
    rw [this]; rfl
  have hc : scL (a ++ lfS ++ b) = scL a ++ ([1] ++ scL b) := by rw [j2.sc, hs1, List.append_assoc]
  have hcat : Cat (scL (a ++ lfS ++ b)) (scL a) (scL b) := by
    rw [hc]
    refine ⟨by simp only [List.length_append, List.length_singleton]; omega, fun k hk => iAt_app1 _ _ _ hk, ?_, fun k => ?_⟩
    · have := iAt_app2 (scL a) ([1] ++ scL b) 0
      rw [Nat.add_zero] at this
      rw [this]; rfl
    · rw [Nat.add_assoc, iAt_app2]
      exact iAt_app2 [1] (scL b) k
  have hl1 : (scL (a ++ lfS)).length = (scL a).length + 1 := by rw [hs1]; simp
  have hbat : Bat (bnds (cls (a ++ lfS ++ b))) (bnds (cls a)) (bnds (cls b)) (scL a).length (scL b).length ((nR a : Int) + 1) := by
    refine ⟨fun k hk => ?_, fun k hk => ?_⟩
    · rw [j2.a k (by omega), j1.a k hk]
    · rw [← hl1, j2.b k hk, hn1]; omega
  have he : iAt (bnds (cls a)) ((scL a).length : Nat) = (nR a : Int) + 1 - 1 := by rw [scL_len, bnds_endS]; omega
  exact ⟨j2.ok, tok_cat hcat hbat he (bnds_zero _), brk_cat hcat hbat he (bnds_zero _)⟩
def xA (l : List (Int × Int × Int)) (i : Nat) : Int × Int × Int := l.getD i (0, 0, 0)
def yA (l : List (Int × Int)) (i : Nat) : Int × Int := l.getD i (0, 0)
theorem row3 (l : List (Int × Int × Int)) (i : Nat) (h : i < l.length) : (l.map e3)[((i : Nat) : Int).toNat]? = some [.v (.int .i64 (xA l i).1), .v (.int .i64 (xA l i).2.1), .v (.int .i64 (xA l i).2.2)] := by
  rw [Int.toNat_natCast, List.getElem?_map, List.getElem?_eq_getElem h]; unfold xA; rw [List.getD_eq_getElem?_getD, List.getElem?_eq_getElem h]; rfl
theorem row2 (l : List (Int × Int)) (i : Nat) (h : i < l.length) : (l.map e2)[((i : Nat) : Int).toNat]? = some [.v (.int .i64 (yA l i).1), .v (.int .i64 (yA l i).2)] := by
  rw [Int.toNat_natCast, List.getElem?_map, List.getElem?_eq_getElem h]; unfold yA; rw [List.getD_eq_getElem?_getD, List.getElem?_eq_getElem h]; rfl
theorem xA_app1 (l m : List (Int × Int × Int)) (i : Nat) (h : i < l.length) : xA (l ++ m) i = xA l i := by
  unfold xA; rw [List.getD_eq_getElem?_getD, List.getD_eq_getElem?_getD, List.getElem?_append_left h]
theorem xA_app2 (l m : List (Int × Int × Int)) (k : Nat) : xA (l ++ m) (l.length + k) = xA m k := by
  unfold xA; rw [List.getD_eq_getElem?_getD, List.getD_eq_getElem?_getD, List.getElem?_append_right (by omega), Nat.add_sub_cancel_left]
theorem xA_map (m : List (Int × Int × Int)) (n : Int) (k : Nat) (h : k < m.length) : xA (m.map (sh3 n)) k = sh3 n (xA m k) := by
  unfold xA; rw [List.getD_eq_getElem?_getD, List.getD_eq_getElem?_getD, List.getElem?_map, List.getElem?_eq_getElem h]; rfl
theorem yA_map (m : List (Int × Int)) (n : Int) (k : Nat) (h : k < m.length) : (m.map (sh2 n)).take (k + 1) = (m.map (sh2 n)).take k ++ [((yA m k).1 + n, (yA m k).2)] := by
  rw [List.take_succ_eq_append_getElem (by rw [List.length_map]; exact h), List.getElem_map]
  unfold yA; rw [List.getD_eq_getElem?_getD, List.getElem?_eq_getElem h]; rfl
theorem e2_each (l : List (Int × Int)) : ∀ x ∈ l.map e2, x.length = 2 := by
  intro x hx; obtain ⟨_, _, rfl⟩ := List.mem_map.1 hx; rfl
def lpV (s : ByteArray) : Int := iAt (pts s) (iAt (bnds (cls s)) (((bnds (cls s)).length : Int) - 2))
theorem lpV_sc {s : ByteArray} (h : 0 < (scL s).length) : clsS (lpV s) = iAt (scL s) (((scL s).length : Int) - 1) := by
  have hl := scL_len s
  have hb : (bnds (cls s)).length = (cAll (cls s)).length + 1 := ends_len _
  have hg := scL_get s ((scL s).length - 1) (by omega)
  rw [show (((scL s).length - 1 : Nat) : Int) = ((scL s).length : Int) - 1 by omega] at hg
  rw [hg]; unfold lpV
  rw [show ((bnds (cls s)).length : Int) - 2 = ((scL s).length : Int) - 1 by omega]
theorem sc_pos {s : ByteArray} : 0 < s.size ↔ 0 < (scL s).length := by
  have hl := scL_len s
  have h1 := nR_end s
  have hbe := bnds_endS s
  constructor
  · intro h
    have hn : 0 < nR s := by
      rcases Nat.eq_zero_or_pos (nR s) with e | e
      · rw [e, rpos] at h1; omega
      · exact e
    rcases Nat.eq_zero_or_pos (cAll (cls s)).length with e | e
    · rw [e] at hbe
      have : iAt (bnds (cls s)) ((0 : Nat) : Int) = 0 := bnds_zero _
      omega
    · omega
  · intro h
    have := nR_le s
    rcases Nat.eq_zero_or_pos (nR s) with e | e
    · have e2 : cls s = [] := List.eq_nil_of_length_eq_zero (by rw [cls_len]; exact e)
      rw [e2] at hl
      have : (cAll []).length = 0 := rfl
      omega
    · omega
theorem nR_pos {s : ByteArray} (h : 0 < s.size) : 0 < nR s := by
  have h1 := nR_end s
  rcases Nat.eq_zero_or_pos (nR s) with e | e
  · rw [e, rpos] at h1; omega
  · exact e
theorem TI_at {s : ByteArray} (hok : okS s = true) {i : Nat} (h : i < (TI s).length) : 0 ≤ (xA (TI s) i).2.1 ∧ (xA (TI s) i).2.1 ≤ nR s ∧ 0 ≤ (xA (TI s) i).2.2 ∧ (xA (TI s) i).2.2 ≤ nR s := by
  have hl : (TI s).length = nT (scL s) := by unfold TI tokI; simp
  have e : xA (TI s) i = (kindT (scL s) (posT (scL s) i), fT (scL s) (bnds (cls s)) i, fT (scL s) (bnds (cls s)) (i + 1)) := by
    unfold xA TI tokI fT
    rw [List.getD_eq_getElem?_getD, List.getElem?_map, List.getElem?_range (by omega)]; rfl
  rw [e]
  dsimp only
  have h1 := (tok_ok hok).ge (j := i) (by omega)
  have h2 := (tok_ok hok).ge (j := i + 1) (by omega)
  exact ⟨h1.1, h1.2, h2.1, h2.2⟩
theorem BI_mem {c b : List Int} {x : Int × Int} : ∀ {n}, x ∈ brkI c b n → ∃ j : Nat, j ≤ n ∧ x.1 = iAt b j
  | 0, h => by cases h
  | n + 1, h => by
    rw [brkI] at h
    rcases List.mem_append.1 h with h | h
    · obtain ⟨j, h1, h2⟩ := BI_mem h; exact ⟨j, by omega, h2⟩
    · split at h
      · rw [List.mem_singleton.1 h]; exact ⟨n + 1, Nat.le_refl _, rfl⟩
      · cases h
theorem BI_at {s : ByteArray} {i : Nat} (h : i < (BI s).length) : 0 ≤ (yA (BI s) i).1 ∧ (yA (BI s) i).1 ≤ nR s := by
  have hm : yA (BI s) i ∈ BI s := by
    unfold yA; rw [List.getD_eq_getElem?_getD, List.getElem?_eq_getElem h]; exact List.getElem_mem h
  obtain ⟨j, h1, h2⟩ := BI_mem hm
  have hl := scL_len s
  have hb : (bnds (cls s)).length = (cAll (cls s)).length + 1 := ends_len _
  rw [h2]
  have := bnds_le (cls s) j (by omega) (by omega)
  rw [cls_len] at this
  exact this
set_option maxRecDepth 100000 in
theorem lastPoint_spec (s : ByteArray) (hok : okS s = true) (h0 : 0 < s.size) (hs : s.size ≤ 1000000000) : Fun Tryd.prog 22 [.v (.string s)] (.v (.int .i64 (lpV s))) := by
  refine Fun.enter (n := 32) (rs := [.tmp 2]) Tryd.func22 rfl Tryd.ntmps22 Tryd.results22 rfl (fun w F => ?_)
  have hsc := sc_pos.1 h0
  have hsl := scL_len s
  have hbl : (bnds (cls s)).length = (cAll (cls s)).length + 1 := ends_len _
  have hkb := encI_len (bnds (cls s))
  have hkp := encI_len (pts s)
  have hpl := pts_len s
  have hnr := nR_pos h0
  have hcl := cAll_len_le (cls s)
  rw [cls_len] at hcl
  have hnl := nR_le s
  obtain ⟨v1, _⟩ := okV hok
  refine TC.seq ?_; refine TC.region ?_; refine TL.run1 (pure_assign rfl) rfl ?_; refine TL.nil' ?_; refine TC.seq ?_; refine TC.region ?_; refine TL.run1 (pure_move rfl) rfl ?_; refine TL.run1 (pure_call (Points_spec s hs) (.cons rfl .nil) Tryd.call16) rfl ?_; refine TL.run1 (pure_move rfl) rfl ?_; (iterate 3 refine TL.run1 (pure_extract rfl rfl) rfl ?_); (iterate 3 refine TL.run1 (pure_assign rfl) rfl ?_); refine TL.nil' ?_; refine TC.seq ?_
  rw [v1]
  refine TC.region ?_; refine TL.run1 (pure_move rfl) rfl ?_; refine TL.run1 (pure_call (RBnd_spec s hs) (.cons rfl .nil) Tryd.call17) rfl ?_; refine TL.run1 (pure_assign rfl) rfl ?_; refine TL.nil' ?_; refine TC.seq ?_; refine TC.regionCut [15, 16, 17, 18, 19, 20, 21, 22] 22 (False) ?_ ?_
  · skip
    refine TL.run1 (pure_move rfl) rfl ?_; refine TL.run1 (pure_len Ty.sl35 rfl) rfl ?_; refine TL.run1 (pure_lss rfl rfl) rfl ?_; refine TL.run1 (pure_move rfl) rfl ?_; refine TL.splitP 18 rfl (fun hg18 => ?_) (fun hg18 => ?_)
    · try dsimp only at hg18
      (iterate 3 refine TL.passG rfl rfl rfl rfl ?_); refine TL.run1 (pure_pick_true rfl rfl) rfl ?_; refine TL.cutEnd (by repeat (first | exact Same.refl _ _ | refine Same.put rfl ?_)) rfl ?_
      first | (simp only [decide_eq_true_eq, iff_false]; omega) | (simp; omega) | (simp_all; done) | (simp_all; omega)
    · try dsimp only at hg18
      refine TL.runG rfl rfl (pure_move rfl) rfl ?_; refine TL.runG rfl rfl (pure_len Ty.sl35 rfl) rfl ?_; refine TL.runG rfl rfl (pure_eql rfl rfl) rfl ?_; refine TL.run1 (pure_pick_false rfl rfl) rfl ?_; refine TL.cutEnd (by repeat (first | exact Same.refl _ _ | refine Same.put rfl ?_)) rfl ?_
      first | (simp only [decide_eq_true_eq, iff_false]; omega) | (simp; omega) | (simp_all; done) | (simp_all; omega)
  refine TC.condD rfl (fun hc22 => ?_) (fun hc22 => ?_)
  · try dsimp only at hc22
    all_goals exact hc22.elim
  · try dsimp only at hc22
    refine TC.skip' ?_; refine TC.seq ?_
    have hrb : (encI (bnds (cls s)))[(((bnds (cls s)).length : Int) - 2).toNat]? = some [.v (.int .i64 (iAt (bnds (cls s)) (((bnds (cls s)).length : Int) - 2)))] := encI_get _ _ (by omega) (by omega)
    rw [← hkb] at hrb
    have h2 := bnds_le (cls s) (((bnds (cls s)).length : Int) - 2) (by omega) (by omega)
    have h3 := inc_iAtS (inc_bnds (cls s)) (show (scL s).length - 1 < (scL s).length by omega) (by omega)
    rw [hsl, bnds_endS, ← hsl, show (((scL s).length - 1 : Nat) : Int) = ((bnds (cls s)).length : Int) - 2 by omega] at h3
    have hrp : (encI (pts s))[(iAt (bnds (cls s)) (((bnds (cls s)).length : Int) - 2)).toNat]? = some [.v (.int .i64 (lpV s))] := encI_get _ _ (by omega) (by omega)
    rw [← hkb] at hrp
    refine TC.region ?_; (iterate 3 refine TL.run1 (pure_move rfl) rfl ?_); refine TL.run1 (pure_len Ty.sl35 rfl) rfl ?_; refine TL.run1 (pure_sub rfl rfl (mkI64 (by omega) (by omega))) rfl ?_; refine TL.run1 (pure_indexAddr Ty.sl35 rfl rfl (by omega) hrb (List.cons_ne_nil _ _)) rfl ?_; refine TL.run1 (pure_load1 Ty.one3 rfl) rfl ?_; refine TL.run1 (pure_indexAddr Ty.sl35 rfl rfl (by rw [hkb]; omega) hrp (List.cons_ne_nil _ _)) rfl ?_; refine TL.run1 (pure_load1 Ty.one3 rfl) rfl ?_; refine TL.run1 (pure_assign rfl) rfl ?_; refine TL.nil' ?_; refine TC.ret ?_
    exact ret_int rfl rfl
set_option maxHeartbeats 4000000 in
set_option maxRecDepth 100000 in
theorem SegmentJoins_spec (s t : ByteArray) : Fun Tryd.prog 6 [.v (.string s), .v (.string t)] (.v (.bool true)) := by
  refine Fun.enter (n := 245) (rs := [.tmp 4]) Tryd.func6 rfl Tryd.ntmps6 Tryd.results6 rfl (fun w F => ?_); refine TC.seq ?_; refine TC.region ?_; refine TL.run1 (pure_assign rfl) rfl ?_; refine TL.nil' ?_; refine TC.seq ?_; refine TC.region ?_; refine TL.run1 (pure_move rfl) rfl ?_; refine TL.run1 (pure_call (short_spec s) (.cons rfl .nil) Tryd.call12) rfl ?_; refine TL.run1 (pure_move rfl) rfl ?_; refine TL.run1 (pure_call (short_spec t) (.cons rfl .nil) Tryd.call12) rfl ?_; (iterate 2 refine TL.run1 (pure_assign rfl) rfl ?_); refine TL.nil' ?_; refine TC.seq ?_
  obtain ⟨a, had⟩ : ∃ c, shortS s = c := ⟨_, rfl⟩
  rw [had]
  have has : a.size ≤ 240 := had ▸ shortS_size s
  obtain ⟨b, hbd⟩ : ∃ c, shortS t = c := ⟨_, rfl⟩
  rw [hbd]
  have hbs : b.size ≤ 240 := hbd ▸ shortS_size t
  refine TC.region ?_; refine TL.run1 (pure_move rfl) rfl ?_; refine TL.run1 (pure_call (Tokens_spec a (by omega)) (.cons rfl .nil) Tryd.call13) rfl ?_; refine TL.run1 (pure_move rfl) rfl ?_; (iterate 2 refine TL.run1 (pure_extract rfl rfl) rfl ?_); (iterate 2 refine TL.run1 (pure_assign rfl) rfl ?_); refine TL.nil' ?_; refine TC.seq ?_; refine TC.region ?_; refine TL.run1 (pure_move rfl) rfl ?_; refine TL.run1 (pure_call (Tokens_spec b (by omega)) (.cons rfl .nil) Tryd.call13) rfl ?_; refine TL.run1 (pure_move rfl) rfl ?_; (iterate 2 refine TL.run1 (pure_extract rfl rfl) rfl ?_); (iterate 2 refine TL.run1 (pure_assign rfl) rfl ?_); refine TL.nil' ?_; refine TC.seq ?_
  have hEa := errU_dec a
  have hEb := errU_dec b
  have hbx := byt_lt a (a.size - 1)
  refine TC.regionCut [37, 38, 39, 40, 41, 42, 43, 44, 45, 46, 47, 48, 49, 50, 51, 52, 53, 54, 55, 56, 57, 58, 59] 59 (okS a = false ∨ okS b = false ∨ (0 < a.size ∧ ((byt a (a.size - 1) : Nat) : Int) = 13)) ?_ ?_
  · skip
    refine TL.run1 (pure_call (known_spec) .nil Tryd.call15) rfl ?_; refine TL.run1 (pure_not rfl) rfl ?_; refine TL.run1 (pure_move rfl) rfl ?_; refine TL.split 39 rfl (fun hg39 => ?_) (fun hg39 => ?_)
    · try dsimp only at hg39
      (iterate 2 refine TL.passG rfl rfl rfl rfl ?_); refine TL.run1 (pure_pick_true rfl rfl) rfl ?_; refine TL.run1 (pure_move rfl) rfl ?_; (iterate 2 refine TL.passG rfl rfl rfl rfl ?_); refine TL.run1 (pure_pick_true rfl rfl) rfl ?_; refine TL.run1 (pure_move rfl) rfl ?_; (iterate 11 refine TL.passG rfl rfl rfl rfl ?_); refine TL.run1 (pure_pick_true rfl rfl) rfl ?_; refine TL.cutEnd (by repeat (first | exact Same.refl _ _ | refine Same.put rfl ?_)) rfl ?_
      first | (simp_all; done) | (simp_all; omega) | grind
    · try dsimp only at hg39
      refine TL.runG rfl rfl (pure_move rfl) rfl ?_; refine TL.runG rfl rfl (pure_neq rfl rfl) rfl ?_; refine TL.run1 (pure_pick_false rfl rfl) rfl ?_; refine TL.run1 (pure_move rfl) rfl ?_; refine TL.splitP 43 rfl (fun hg43 => ?_) (fun hg43 => ?_)
      · try dsimp only at hg43
        (iterate 2 refine TL.passG rfl rfl rfl rfl ?_); refine TL.run1 (pure_pick_true rfl rfl) rfl ?_; refine TL.run1 (pure_move rfl) rfl ?_; (iterate 11 refine TL.passG rfl rfl rfl rfl ?_); refine TL.run1 (pure_pick_true rfl rfl) rfl ?_; refine TL.cutEnd (by repeat (first | exact Same.refl _ _ | refine Same.put rfl ?_)) rfl ?_
        first | (simp_all; done) | (simp_all; omega) | grind
      · try dsimp only at hg43
        refine TL.runG rfl rfl (pure_move rfl) rfl ?_; refine TL.runG rfl rfl (pure_neq rfl rfl) rfl ?_; refine TL.run1 (pure_pick_false rfl rfl) rfl ?_; refine TL.run1 (pure_move rfl) rfl ?_; refine TL.splitP 47 rfl (fun hg47 => ?_) (fun hg47 => ?_)
        · try dsimp only at hg47
          (iterate 11 refine TL.passG rfl rfl rfl rfl ?_); refine TL.run1 (pure_pick_true rfl rfl) rfl ?_; refine TL.cutEnd (by repeat (first | exact Same.refl _ _ | refine Same.put rfl ?_)) rfl ?_
          first | (simp_all; done) | (simp_all; omega) | grind
        · try dsimp only at hg47
          refine TL.runG rfl rfl (pure_move rfl) rfl ?_; refine TL.runG rfl rfl (pure_len_str Tryd.underlying9 rfl) rfl ?_; refine TL.runG rfl rfl (pure_gtr rfl rfl) rfl ?_; refine TL.runG rfl rfl (pure_move rfl) rfl ?_; refine TL.splitP 51 rfl (fun hg51 => ?_) (fun hg51 => ?_)
          · try dsimp only at hg51
            (iterate 2 refine TL.runG rfl rfl (pure_move rfl) rfl ?_); refine TL.runG rfl rfl (pure_len_str Tryd.underlying9 rfl) rfl ?_; refine TL.runG rfl rfl (pure_sub rfl rfl (mkI64 (by omega) (by omega))) rfl ?_; refine TL.runG rfl rfl (pure_index_byt (j := a.size - 1) Tryd.underlying9 rfl rfl (by first | omega | (have h := hg51; simp only [decide_eq_true_eq] at h; omega)) (by first | omega | (have h := hg51; simp only [decide_eq_true_eq] at h; omega))) rfl ?_; refine TL.runG rfl rfl (pure_eql rfl rfl) rfl ?_; refine TL.runG rfl rfl (pure_pick_true rfl rfl) rfl ?_; refine TL.run1 (pure_pick_false rfl rfl) rfl ?_; refine TL.cutEnd (by repeat (first | exact Same.refl _ _ | refine Same.put rfl ?_)) rfl ?_
            first | (simp_all; done) | (simp_all; omega) | grind
          · try dsimp only at hg51
            (iterate 6 refine TL.passG rfl rfl rfl rfl ?_); refine TL.runG rfl rfl (pure_pick_false rfl rfl) rfl ?_; refine TL.run1 (pure_pick_false rfl rfl) rfl ?_; refine TL.cutEnd (by repeat (first | exact Same.refl _ _ | refine Same.put rfl ?_)) rfl ?_
            first | (simp_all; done) | (simp_all; omega) | grind
  refine TC.condD rfl (fun hc59 => ?_) (fun hc59 => ?_)
  · try dsimp only at hc59
    refine TC.seq ?_; refine TC.region ?_; refine TL.run1 (pure_call (known_spec) .nil Tryd.call15) rfl ?_; refine TL.run1 (pure_assign rfl) rfl ?_; refine TL.nil' ?_; refine TC.ret ?_; refine then_ret ?_
    exact ret_bool rfl (by simp)
  · try dsimp only at hc59
    have hoka : okS a = true := by (cases h : okS a with | true => rfl | false => exact absurd (.inl h) hc59)
    have hokb : okS b = true := by (cases h : okS b with | true => rfl | false => exact absurd (.inr (.inl h)) hc59)
    have hcr : 0 < a.size → byt a (a.size - 1) ≠ 13 := fun h0 h => hc59 (.inr (.inr ⟨h0, by omega⟩))
    obtain ⟨j1, j2, j3⟩ := joined hoka hokb hcr
    rw [tokV_TI hoka, tokV_TI hokb]
    have hlx : ((TI a).map e3).length = (TI a).length := List.length_map _
    have hly : ((TI b).map e3).length = (TI b).length := List.length_map _
    have hxl := tokV_len a
    have hyl := tokV_len b
    rw [tokV_TI hoka] at hxl
    rw [tokV_TI hokb] at hyl
    have hul := brkV_len a
    have hvl := brkV_len b
    rw [brkV_BI hoka] at hul
    rw [brkV_BI hokb] at hvl
    have hlu : ((BI a).map e2).length = (BI a).length := List.length_map _
    have hlv : ((BI b).map e2).length = (BI b).length := List.length_map _
    have hzt : tokV (a ++ lfS ++ b) = (TI a ++ [(6, ((nR a : Int) + 1) - 1, ((nR a : Int) + 1))] ++ (TI b).map (sh3 ((nR a : Int) + 1))).map e3 := by rw [tokV_TI j1, j2]
    have hzb : brkV (a ++ lfS ++ b) = ((BI a ++ (if 0 < (scL a).length ∧ iAt (scL a) (((scL a).length : Int) - 1) = 1 then [(((nR a : Int) + 1) - 1, 2)] else []) ++ (if 0 < (scL b).length then [(((nR a : Int) + 1), 2)] else [])) ++ (BI b).map (sh2 ((nR a : Int) + 1))).map e2 := by rw [brkV_BI j1, j3]
    have hzE : errU (a ++ lfS ++ b) = 0 := by unfold errU; rw [if_pos j1]
    have haE : errU a = 0 := by unfold errU; rw [if_pos hoka]
    have hbE : errU b = 0 := by unfold errU; rw [if_pos hokb]
    have hzl : (TI a ++ [(6, ((nR a : Int) + 1) - 1, ((nR a : Int) + 1))] ++ (TI b).map (sh3 ((nR a : Int) + 1))).length = (TI a).length + 1 + (TI b).length := by simp only [List.length_append, List.length_singleton, List.length_map]
    have hs1 : (a ++ lfS).size = a.size + 1 := by rw [size_app]; rfl
    have hs2 : (a ++ lfS ++ b).size = a.size + 1 + b.size := by rw [size_app, hs1]
    have hlf : lfS.size = 1 := rfl
    have hnl := nR_le a
    have hnlb := nR_le b
    have hsa := sc_pos (s := a)
    have hsb := sc_pos (s := b)
    have hzl2 : ((TI a ++ [(6, ((nR a : Int) + 1) - 1, ((nR a : Int) + 1))] ++ (TI b).map (sh3 ((nR a : Int) + 1))).map e3).length = (TI a ++ [(6, ((nR a : Int) + 1) - 1, ((nR a : Int) + 1))] ++ (TI b).map (sh3 ((nR a : Int) + 1))).length := List.length_map _
    refine TC.skip' ?_; refine TC.seq ?_; refine TC.region ?_; refine TL.run1 (pure_move rfl) rfl ?_; refine TL.run1 (pure_add_string (a := a) (b := lfS) rfl rfl (by omega)) rfl ?_; refine TL.run1 (pure_move rfl) rfl ?_; refine TL.run1 (pure_add_string (a := (a ++ lfS)) (b := b) rfl rfl (by omega)) rfl ?_; refine TL.run1 (pure_call (Tokens_spec (a ++ lfS ++ b) (by omega)) (.cons rfl .nil) Tryd.call13) rfl ?_; refine TL.run1 (pure_move rfl) rfl ?_; (iterate 2 refine TL.run1 (pure_extract rfl rfl) rfl ?_); (iterate 2 refine TL.run1 (pure_assign rfl) rfl ?_); refine TL.nil' ?_; refine TC.seq ?_; refine TC.region ?_; refine TL.run1 (pure_move rfl) rfl ?_; refine TL.run1 (pure_call (size_spec a hoka (by omega)) (.cons rfl .nil) Tryd.call20) rfl ?_; refine TL.run1 (pure_add rfl rfl (mkI64 (by omega) (by omega))) rfl ?_; refine TL.run1 (pure_assign rfl) rfl ?_; refine TL.nil' ?_; refine TC.seq ?_
    rw [hzt, hzE]
    have hrm : ((TI a ++ [(6, ((nR a : Int) + 1) - 1, ((nR a : Int) + 1))] ++ (TI b).map (sh3 ((nR a : Int) + 1))).map e3)[(((TI a).map e3).length : Int).toNat]? = some [.v (.int .i64 6), .v (.int .i64 (((nR a : Int) + 1) - 1)), .v (.int .i64 ((nR a : Int) + 1))] := by (rw [hlx, row3 _ _ (by omega), List.append_assoc]; have h := xA_app2 (TI a) ([(6, ((nR a : Int) + 1) - 1, ((nR a : Int) + 1))] ++ (TI b).map (sh3 ((nR a : Int) + 1))) 0; rw [Nat.add_zero] at h; rw [h]; rfl)
    refine TC.regionCut [72, 73, 74, 75, 76, 77, 78, 79, 80, 81, 82, 83, 84, 85, 86, 87, 88, 89, 90, 91, 92, 93, 94, 95, 96] 96 (False) ?_ ?_
    · skip
      refine TL.run1 (pure_move rfl) rfl ?_; refine TL.run1 (pure_neq rfl rfl) rfl ?_; refine TL.run1 (pure_move rfl) rfl ?_; refine TL.splitP 74 rfl (fun hg74 => ?_) (fun hg74 => ?_)
      · try dsimp only at hg74
        (iterate 9 refine TL.passG rfl rfl rfl rfl ?_); refine TL.run1 (pure_pick_true rfl rfl) rfl ?_; refine TL.run1 (pure_move rfl) rfl ?_; (iterate 10 refine TL.passG rfl rfl rfl rfl ?_); refine TL.run1 (pure_pick_true rfl rfl) rfl ?_; refine TL.cutEnd (by repeat (first | exact Same.refl _ _ | refine Same.put rfl ?_)) rfl ?_
        first | (simp; done) | (simp_all; done) | (simp_all; omega)
      · try dsimp only at hg74
        refine TL.runG rfl rfl (pure_move rfl) rfl ?_; refine TL.runG rfl rfl (pure_len Ty.sl23 rfl) rfl ?_; refine TL.runG rfl rfl (pure_move rfl) rfl ?_; refine TL.runG rfl rfl (pure_len Ty.sl23 rfl) rfl ?_; refine TL.runG rfl rfl (pure_add rfl rfl (mkI64 (by omega) (by omega))) rfl ?_; refine TL.runG rfl rfl (pure_move rfl) rfl ?_; refine TL.runG rfl rfl (pure_len Ty.sl23 rfl) rfl ?_; refine TL.runG rfl rfl (pure_add rfl rfl (mkI64 (by omega) (by omega))) rfl ?_; refine TL.runG rfl rfl (pure_neq rfl rfl) rfl ?_; refine TL.run1 (pure_pick_false rfl rfl) rfl ?_; refine TL.run1 (pure_move rfl) rfl ?_; refine TL.splitP 85 rfl (fun hg85 => ?_) (fun hg85 => ?_)
        · try dsimp only at hg85
          (iterate 10 refine TL.passG rfl rfl rfl rfl ?_); refine TL.run1 (pure_pick_true rfl rfl) rfl ?_; refine TL.cutEnd (by repeat (first | exact Same.refl _ _ | refine Same.put rfl ?_)) rfl ?_
          first | (simp; done) | (simp_all; done) | (simp_all; omega)
        · try dsimp only at hg85
          (iterate 2 refine TL.runG rfl rfl (pure_move rfl) rfl ?_); refine TL.runG rfl rfl (pure_len Ty.sl23 rfl) rfl ?_; refine TL.runG rfl rfl (pure_indexAddr Ty.sl23 rfl rfl (by omega) hrm (List.cons_ne_nil _ _)) rfl ?_; refine TL.runG rfl rfl (pure_load Ty.agg32 rfl (.succ (.succ (.succ (.zero _))))) rfl ?_; refine TL.runG rfl rfl (pure_move rfl) rfl ?_; refine TL.runG rfl rfl (pure_sub rfl rfl (mkI64 (by omega) (by omega))) rfl ?_; refine TL.runG rfl rfl (pure_move rfl) rfl ?_; refine TL.runG rfl rfl (pure_build3 Ty.pl32 Ty.zero32 rfl rfl rfl) rfl ?_; refine TL.runG rfl rfl (pure_neq_agg Ty.eq32 rfl rfl (.cons (.cons (.cons .nil))) (.cons (.cons (.cons .nil))) rfl rfl) rfl ?_; refine TL.run1 (pure_pick_false rfl rfl) rfl ?_; refine TL.cutEnd (by repeat (first | exact Same.refl _ _ | refine Same.put rfl ?_)) rfl ?_
          first | (simp; done) | (simp_all; done) | (simp_all; omega)
    refine TC.condD rfl (fun hc96 => ?_) (fun hc96 => ?_)
    · try dsimp only at hc96
      all_goals exact hc96.elim
    · try dsimp only at hc96
      refine TC.skip' ?_; (iterate 2 refine TC.seq ?_); refine TC.region ?_; refine TL.run1 (pure_assign rfl) rfl ?_; refine TL.nil' ?_; refine TC.block ?_; refine TC.loopX (X := Nat) (fun i => [(0, .v (.string a)), (1, .v (.string b)), (5, .sl 3 ((TI a).map e3)), (7, .sl 3 ((TI b).map e3)), (9, .sl 3 ((TI a ++ [(6, ((nR a : Int) + 1) - 1, ((nR a : Int) + 1))] ++ (TI b).map (sh3 ((nR a : Int) + 1))).map e3)), (11, .v (.int .i64 ((nR a : Int) + 1))), (12, .v (.int .i64 i))]) (fun i => []) (fun i => (i ≤ (TI a).length)) (fun i => (TI a).length - i) (0) ⟨by skip; repeat (first | exact Agree.nil | refine Agree.cons rfl ?_), by skip; repeat (first | exact List.nil_sublist _ | exact List.Sublist.refl _ | apply List.Sublist.cons_cons | apply List.Sublist.cons)⟩ ?_ ?_
      · skip
        exact Nat.zero_le _
      intro i
      intro h1
      show TC _ _ _ (Env.of [(0, .v (.string a)), (1, .v (.string b)), (5, .sl 3 ((TI a).map e3)), (7, .sl 3 ((TI b).map e3)), (9, .sl 3 ((TI a ++ [(6, ((nR a : Int) + 1) - 1, ((nR a : Int) + 1))] ++ (TI b).map (sh3 ((nR a : Int) + 1))).map e3)), (11, .v (.int .i64 ((nR a : Int) + 1))), (12, .v (.int .i64 i))]) []
      (iterate 2 refine TC.seq ?_); refine TC.region ?_; (iterate 2 refine TL.run1 (pure_move rfl) rfl ?_); refine TL.run1 (pure_len Ty.sl23 rfl) rfl ?_; refine TL.run1 (pure_lss rfl rfl) rfl ?_; refine TL.nil' ?_; refine TC.condD rfl (fun hc100 => ?_) (fun hc100 => ?_)
      · try dsimp only at hc100
        refine TC.skip' ?_; refine TC.seq ?_; refine TC.block ?_
        have hil : i < (TI a).length := by omega
        have hrx := row3 (TI a) i hil
        have hrz : ((TI a ++ [(6, ((nR a : Int) + 1) - 1, ((nR a : Int) + 1))] ++ (TI b).map (sh3 ((nR a : Int) + 1))).map e3)[((i : Nat) : Int).toNat]? = some [.v (.int .i64 (xA (TI a) i).1), .v (.int .i64 (xA (TI a) i).2.1), .v (.int .i64 (xA (TI a) i).2.2)] := by (rw [row3 _ _ (by omega), List.append_assoc, xA_app1 _ _ _ hil])
        refine TC.drawCut [103, 104, 105, 106, 107, 108, 109, 110, 111] 111 (False) Ty.follows (by kernel_rfl) ?_ ?_
        · skip
          (iterate 2 refine TD.run1 (pure_move rfl) rfl ?_); refine TD.run1 (pure_indexAddr Ty.sl23 rfl rfl (by omega) hrz (List.cons_ne_nil _ _)) rfl ?_; refine TD.run1 (pure_load Ty.agg32 rfl (.succ (.succ (.succ (.zero _))))) rfl ?_; (iterate 2 refine TD.run1 (pure_move rfl) rfl ?_); refine TD.run1 (pure_indexAddr Ty.sl23 rfl rfl (by omega) hrx (List.cons_ne_nil _ _)) rfl ?_; refine TD.run1 (pure_load Ty.agg32 rfl (.succ (.succ (.succ (.zero _))))) rfl ?_; refine TD.run1 (pure_neq_agg Ty.eq32 rfl rfl (.cons (.cons (.cons .nil))) (.cons (.cons (.cons .nil))) rfl rfl) rfl ?_; refine TD.cutEnd (by repeat (first | exact Same.refl _ _ | refine Same.put rfl ?_)) rfl ?_
          simp
        refine TC.condD rfl (fun hc111 => ?_) (fun hc111 => ?_)
        · try dsimp only at hc111
          all_goals exact hc111.elim
        · try dsimp only at hc111
          refine TC.skip ?_; refine block_normal ?_; refine then_normal ?_; refine TC.region ?_; refine TL.run1 (pure_move rfl) rfl ?_; refine TL.run1 (pure_add rfl rfl (mkI64 (by omega) (by omega))) rfl ?_; refine TL.run1 (pure_assign rfl) rfl ?_; refine TL.nil ?_; refine loop_next (i + 1) ⟨by ((try dsimp only); rw [show (((i + 1 : Nat)) : Int) = (i : Int) + 1 by omega]; repeat (first | exact Agree.nil | refine Agree.cons rfl ?_)), by repeat (first | exact List.nil_sublist _ | exact List.Sublist.refl _ | apply List.Sublist.cons_cons | apply List.Sublist.cons)⟩ (show i + 1 ≤ _ by omega) (by omega)
      · try dsimp only at hc100
        refine TC.exit ?_; refine then_exit ?_; refine loop_exit ?_; refine block_here ?_; refine then_normal ?_; (iterate 2 refine TC.seq ?_); refine TC.region ?_; refine TL.run1 (pure_assign rfl) rfl ?_; refine TL.nil' ?_; refine TC.block ?_; refine TC.loopX (X := Nat) (fun i => [(0, .v (.string a)), (1, .v (.string b)), (5, .sl 3 ((TI a).map e3)), (7, .sl 3 ((TI b).map e3)), (9, .sl 3 ((TI a ++ [(6, ((nR a : Int) + 1) - 1, ((nR a : Int) + 1))] ++ (TI b).map (sh3 ((nR a : Int) + 1))).map e3)), (11, .v (.int .i64 ((nR a : Int) + 1))), (13, .v (.int .i64 i))]) (fun i => []) (fun i => (i ≤ (TI b).length)) (fun i => (TI b).length - i) (0) ⟨by skip; repeat (first | exact Agree.nil | refine Agree.cons rfl ?_), by skip; repeat (first | exact List.nil_sublist _ | exact List.Sublist.refl _ | apply List.Sublist.cons_cons | apply List.Sublist.cons)⟩ ?_ ?_
        · skip
          exact Nat.zero_le _
        intro i
        intro h1
        show TC _ _ _ (Env.of [(0, .v (.string a)), (1, .v (.string b)), (5, .sl 3 ((TI a).map e3)), (7, .sl 3 ((TI b).map e3)), (9, .sl 3 ((TI a ++ [(6, ((nR a : Int) + 1) - 1, ((nR a : Int) + 1))] ++ (TI b).map (sh3 ((nR a : Int) + 1))).map e3)), (11, .v (.int .i64 ((nR a : Int) + 1))), (13, .v (.int .i64 i))]) []
        (iterate 2 refine TC.seq ?_); refine TC.region ?_; (iterate 2 refine TL.run1 (pure_move rfl) rfl ?_); refine TL.run1 (pure_len Ty.sl23 rfl) rfl ?_; refine TL.run1 (pure_lss rfl rfl) rfl ?_; refine TL.nil' ?_; refine TC.condD rfl (fun hc115 => ?_) (fun hc115 => ?_)
        · try dsimp only at hc115
          refine TC.skip' ?_; refine TC.seq ?_; refine TC.block ?_
          have hil : i < (TI b).length := by omega
          have htr := TI_at hokb hil
          have hry := row3 (TI b) i hil
          have hrz : ((TI a ++ [(6, ((nR a : Int) + 1) - 1, ((nR a : Int) + 1))] ++ (TI b).map (sh3 ((nR a : Int) + 1))).map e3)[((((TI a).map e3).length : Int) + 1 + i).toNat]? = some [.v (.int .i64 (xA (TI b) i).1), .v (.int .i64 ((xA (TI b) i).2.1 + ((nR a : Int) + 1))), .v (.int .i64 ((xA (TI b) i).2.2 + ((nR a : Int) + 1)))] := by (rw [hlx, show ((TI a).length : Int) + 1 + i = (((TI a).length + (1 + i) : Nat) : Int) by omega, row3 _ _ (by omega), List.append_assoc, xA_app2, show (1 + i) = [((6 : Int), ((nR a : Int) + 1) - 1, ((nR a : Int) + 1))].length + i by simp, xA_app2, xA_map _ _ _ hil]; rfl)
          refine TC.drawCut [118, 119, 120, 121, 122, 123, 124, 125, 126, 127, 128, 129, 130, 131, 132, 133, 134, 135, 136, 137, 138, 139, 140, 141, 142, 143, 144, 145, 146] 146 (False) Ty.follows (by kernel_rfl) ?_ ?_
          · skip
            (iterate 2 refine TD.run1 (pure_move rfl) rfl ?_); refine TD.run1 (pure_len Ty.sl23 rfl) rfl ?_; refine TD.run1 (pure_add rfl rfl (mkI64 (by omega) (by omega))) rfl ?_; refine TD.run1 (pure_move rfl) rfl ?_; refine TD.run1 (pure_add rfl rfl (mkI64 (by omega) (by omega))) rfl ?_; refine TD.run1 (pure_indexAddr Ty.sl23 rfl rfl (by omega) hrz (List.cons_ne_nil _ _)) rfl ?_; refine TD.run1 (pure_load Ty.agg32 rfl (.succ (.succ (.succ (.zero _))))) rfl ?_; (iterate 2 refine TD.run1 (pure_move rfl) rfl ?_); refine TD.run1 (pure_indexAddr Ty.sl23 rfl rfl (by omega) hry (List.cons_ne_nil _ _)) rfl ?_; refine TD.run1 (pure_fieldAddr Ty.f32_0 rfl (.zero _) (List.cons_ne_nil _ _)) rfl ?_; refine TD.run1 (pure_load1 Ty.one3 rfl) rfl ?_; (iterate 2 refine TD.run1 (pure_move rfl) rfl ?_); refine TD.run1 (pure_indexAddr Ty.sl23 rfl rfl (by omega) hry (List.cons_ne_nil _ _)) rfl ?_; refine TD.run1 (pure_fieldAddr Ty.f32_1 rfl (.succ (.zero _)) (List.cons_ne_nil _ _)) rfl ?_; refine TD.run1 (pure_load1 Ty.one3 rfl) rfl ?_; refine TD.run1 (pure_move rfl) rfl ?_; refine TD.run1 (pure_add rfl rfl (mkI64 (by omega) (by omega))) rfl ?_; (iterate 2 refine TD.run1 (pure_move rfl) rfl ?_); refine TD.run1 (pure_indexAddr Ty.sl23 rfl rfl (by omega) hry (List.cons_ne_nil _ _)) rfl ?_; refine TD.run1 (pure_fieldAddr Ty.f32_2 rfl (.succ (.succ (.zero _))) (List.cons_ne_nil _ _)) rfl ?_; refine TD.run1 (pure_load1 Ty.one3 rfl) rfl ?_; refine TD.run1 (pure_move rfl) rfl ?_; refine TD.run1 (pure_add rfl rfl (mkI64 (by omega) (by omega))) rfl ?_; refine TD.run1 (pure_build3 Ty.pl32 Ty.zero32 rfl rfl rfl) rfl ?_; refine TD.run1 (pure_neq_agg Ty.eq32 rfl rfl (.cons (.cons (.cons .nil))) (.cons (.cons (.cons .nil))) rfl rfl) rfl ?_; refine TD.cutEnd (by repeat (first | exact Same.refl _ _ | refine Same.put rfl ?_)) rfl ?_
            simp
          refine TC.condD rfl (fun hc146 => ?_) (fun hc146 => ?_)
          · try dsimp only at hc146
            all_goals exact hc146.elim
          · try dsimp only at hc146
            refine TC.skip ?_; refine block_normal ?_; refine then_normal ?_; refine TC.region ?_; refine TL.run1 (pure_move rfl) rfl ?_; refine TL.run1 (pure_add rfl rfl (mkI64 (by omega) (by omega))) rfl ?_; refine TL.run1 (pure_assign rfl) rfl ?_; refine TL.nil ?_; refine loop_next (i + 1) ⟨by ((try dsimp only); rw [show (((i + 1 : Nat)) : Int) = (i : Int) + 1 by omega]; repeat (first | exact Agree.nil | refine Agree.cons rfl ?_)), by repeat (first | exact List.nil_sublist _ | exact List.Sublist.refl _ | apply List.Sublist.cons_cons | apply List.Sublist.cons)⟩ (show i + 1 ≤ _ by omega) (by omega)
        · try dsimp only at hc115
          refine TC.exit ?_; refine then_exit ?_; refine loop_exit ?_; refine block_here ?_; refine then_normal ?_; refine TC.seq ?_; refine TC.region ?_; refine TL.run1 (pure_move rfl) rfl ?_; refine TL.run1 (pure_call (Breaks_spec a (by omega)) (.cons rfl .nil) Tryd.call18) rfl ?_; refine TL.run1 (pure_move rfl) rfl ?_; (iterate 2 refine TL.run1 (pure_extract rfl rfl) rfl ?_); (iterate 2 refine TL.run1 (pure_assign rfl) rfl ?_); refine TL.nil' ?_; refine TC.seq ?_; refine TC.region ?_; refine TL.run1 (pure_move rfl) rfl ?_; refine TL.run1 (pure_call (Breaks_spec b (by omega)) (.cons rfl .nil) Tryd.call18) rfl ?_; refine TL.run1 (pure_move rfl) rfl ?_; (iterate 2 refine TL.run1 (pure_extract rfl rfl) rfl ?_); (iterate 2 refine TL.run1 (pure_assign rfl) rfl ?_); refine TL.nil' ?_; refine TC.seq ?_; refine TC.region ?_; refine TL.run1 (pure_move rfl) rfl ?_; refine TL.run1 (pure_add_string (a := a) (b := lfS) rfl rfl (by omega)) rfl ?_; refine TL.run1 (pure_move rfl) rfl ?_; refine TL.run1 (pure_add_string (a := (a ++ lfS)) (b := b) rfl rfl (by omega)) rfl ?_; refine TL.run1 (pure_call (Breaks_spec (a ++ lfS ++ b) (by omega)) (.cons rfl .nil) Tryd.call18) rfl ?_; refine TL.run1 (pure_move rfl) rfl ?_; (iterate 2 refine TL.run1 (pure_extract rfl rfl) rfl ?_); (iterate 2 refine TL.run1 (pure_assign rfl) rfl ?_); refine TL.nil' ?_; refine TC.seq ?_
          rw [haE, hbE, hzE, hzb, brkV_BI hoka, brkV_BI hokb]
          refine TC.nilrow 46 2 ?_; refine TC.region ?_; refine TL.run1 (pure_assign rfl) rfl ?_; refine TL.nil' ?_; refine TC.seq ?_; refine TC.region ?_; (iterate 2 refine TL.run1 (pure_move rfl) rfl ?_); refine TL.append Ty.app39 rfl rfl (by intro _; repeat (first | exact UpdR.here _ | apply UpdR.there)) (by simp only [List.length_append, List.length_cons, List.length_nil]; omega) (by simp only [List.length_append, List.length_cons, List.length_nil]; omega) rfl (fun v167 hv167 => ?_); refine TL.run1 (pure_assign rfl) rfl ?_; refine TL.nil' ?_; refine TC.seq ?_
          have hlp := lpV_sc (s := a)
          refine TC.regionCut [168, 169, 170, 171, 172, 173, 174, 175, 176] 176 (0 < (scL a).length ∧ iAt (scL a) (((scL a).length : Int) - 1) = 1) ?_ ?_
          · skip
            refine TL.run1 (pure_move rfl) rfl ?_; refine TL.run1 (pure_len_str Tryd.underlying9 rfl) rfl ?_; refine TL.run1 (pure_gtr rfl rfl) rfl ?_; refine TL.run1 (pure_move rfl) rfl ?_; refine TL.splitP 171 rfl (fun hg171 => ?_) (fun hg171 => ?_)
            · try dsimp only at hg171
              refine TL.runG rfl rfl (pure_move rfl) rfl ?_; refine TL.runG rfl rfl (pure_call (lastPoint_spec a hoka (by first | omega | (have h := hg171; simp only [decide_eq_true_eq] at h; omega)) (by omega)) (.cons rfl .nil) Tryd.call22) rfl ?_; refine TL.runG rfl rfl (pure_call (R3Class_spec (lpV a)) (.cons rfl .nil) Tryd.call21) rfl ?_; refine TL.runG rfl rfl (pure_eql rfl rfl) rfl ?_; refine TL.run1 (pure_pick_true rfl rfl) rfl ?_; refine TL.cutEnd (by repeat (first | exact Same.refl _ _ | refine Same.put rfl ?_)) rfl ?_
              first | (simp_all; done) | (simp_all; omega) | grind
            · try dsimp only at hg171
              (iterate 4 refine TL.passG rfl rfl rfl rfl ?_); refine TL.run1 (pure_pick_false rfl rfl) rfl ?_; refine TL.cutEnd (by repeat (first | exact Same.refl _ _ | refine Same.put rfl ?_)) rfl ?_
              first | (simp_all; done) | (simp_all; omega) | grind
          refine TC.condD rfl (fun hc176 => ?_) (fun hc176 => ?_)
          · try dsimp only at hc176
            refine TC.region ?_; (iterate 2 refine TL.run1 (pure_move rfl) rfl ?_); refine TL.run1 (pure_sub rfl rfl (mkI64 (by omega) (by omega))) rfl ?_; refine TL.run1 (pure_build Ty.pl46 Ty.zero46 (.cons rfl rfl (.one rfl) rfl (.here (.nil _)) (.cons rfl rfl (.one rfl) rfl (.skip (.here (.nil _))) (.nil _)))) rfl ?_; refine TL.run1 (pure_buildSlice (xs := [.tmp 180]) Ty.app39 (by decide) rfl rfl (.cons rfl (.agg _) rfl .nil)) rfl ?_; refine TL.append Ty.app39 rfl rfl (by intro _; repeat (first | exact UpdR.here _ | apply UpdR.there)) (by simp only [List.length_append, List.length_cons, List.length_nil]; omega) (by simp only [List.length_append, List.length_cons, List.length_nil]; omega) rfl (fun v182 hv182 => ?_); refine TL.run1 (pure_assign rfl) rfl ?_; refine TL.nil' ?_; (iterate 2 refine TC.seq ?_); refine TC.region ?_; refine TL.run1 (pure_move rfl) rfl ?_; refine TL.run1 (pure_len_str Tryd.underlying9 rfl) rfl ?_; refine TL.run1 (pure_gtr rfl rfl) rfl ?_; refine TL.nil' ?_; refine TC.condD rfl (fun hc185 => ?_) (fun hc185 => ?_)
            · try dsimp only at hc185
              refine TC.region ?_; (iterate 2 refine TL.run1 (pure_move rfl) rfl ?_); refine TL.run1 (pure_build Ty.pl46 Ty.zero46 (.cons rfl rfl (.one rfl) rfl (.here (.nil _)) (.cons rfl rfl (.one rfl) rfl (.skip (.here (.nil _))) (.nil _)))) rfl ?_; refine TL.run1 (pure_buildSlice (xs := [.tmp 188]) Ty.app39 (by decide) rfl rfl (.cons rfl (.agg _) rfl .nil)) rfl ?_; refine TL.append Ty.app39 rfl rfl (by intro _; repeat (first | exact UpdR.here _ | apply UpdR.there)) (by simp only [List.length_append, List.length_cons, List.length_nil]; omega) (by simp only [List.length_append, List.length_cons, List.length_nil]; omega) rfl (fun v190 hv190 => ?_); refine TL.run1 (pure_assign rfl) rfl ?_; refine TL.nil' ?_; (iterate 2 refine TC.seq ?_)
              obtain ⟨vk, hvk⟩ : ∃ v : Value, v = v190 := ⟨_, rfl⟩
              rw [← hvk]
              have hq3 : 0 < (scL b).length := hsb.1 (by omega)
              have hw0 : ((([] ++ (BI a).map e2) ++ [D.v (.int .i64 (((nR a : Int) + 1) - 1)) :: D.v (.int .i64 2) :: List.map D.v []]) ++ [D.v (.int .i64 ((nR a : Int) + 1)) :: D.v (.int .i64 2) :: List.map D.v []]) = ((BI a ++ (if 0 < (scL a).length ∧ iAt (scL a) (((scL a).length : Int) - 1) = 1 then [(((nR a : Int) + 1) - 1, 2)] else []) ++ (if 0 < (scL b).length then [(((nR a : Int) + 1), 2)] else [])) ++ ((BI b).map (sh2 ((nR a : Int) + 1))).take 0).map e2 := by (rw [if_pos hc176, if_pos hq3, List.take_zero]; simp [e2])
              rw [hw0]
              have hw0l : (BI a ++ (if 0 < (scL a).length ∧ iAt (scL a) (((scL a).length : Int) - 1) = 1 then [(((nR a : Int) + 1) - 1, 2)] else []) ++ (if 0 < (scL b).length then [(((nR a : Int) + 1), 2)] else [])).length ≤ 300 := by (simp only [List.length_append]; have h1 : (if 0 < (scL a).length ∧ iAt (scL a) (((scL a).length : Int) - 1) = 1 then [(((nR a : Int) + 1) - 1, (2 : Int))] else []).length ≤ 1 := (by split <;> simp); have h2 : (if 0 < (scL b).length then [(((nR a : Int) + 1), (2 : Int))] else []).length ≤ 1 := (by split <;> simp); omega)
              refine TC.region ?_; refine TL.run1 (pure_assign rfl) rfl ?_; refine TL.nil' ?_; refine TC.block ?_; refine TC.loopX (X := Nat × Value) (fun (i, v) => [(11, .v (.int .i64 ((nR a : Int) + 1))), (15, .v (.int .i64 0)), (16, .sl 2 ((BI b).map e2)), (17, .v (.int .i64 0)), (18, .sl 2 (((BI a ++ (if 0 < (scL a).length ∧ iAt (scL a) (((scL a).length : Int) - 1) = 1 then [(((nR a : Int) + 1) - 1, 2)] else []) ++ (if 0 < (scL b).length then [(((nR a : Int) + 1), 2)] else [])) ++ (BI b).map (sh2 ((nR a : Int) + 1))).map e2)), (19, .v (.int .i64 0)), (20, .v v), (21, .v (.int .i64 i))]) (fun (i, v) => [.row v 46 2 (((BI a ++ (if 0 < (scL a).length ∧ iAt (scL a) (((scL a).length : Int) - 1) = 1 then [(((nR a : Int) + 1) - 1, 2)] else []) ++ (if 0 < (scL b).length then [(((nR a : Int) + 1), 2)] else [])) ++ ((BI b).map (sh2 ((nR a : Int) + 1))).take i).map e2)]) (fun (i, v) => (i ≤ (BI b).length)) (fun (i, v) => (BI b).length - i) (0, vk) ⟨by skip; repeat (first | exact Agree.nil | refine Agree.cons rfl ?_), by skip; repeat (first | exact List.nil_sublist _ | exact List.Sublist.refl _ | apply List.Sublist.cons_cons | apply List.Sublist.cons)⟩ ?_ ?_
              · skip
                exact Nat.zero_le _
              rintro ⟨i, v⟩
              intro h1
              show TC _ _ _ (Env.of [(11, .v (.int .i64 ((nR a : Int) + 1))), (15, .v (.int .i64 0)), (16, .sl 2 ((BI b).map e2)), (17, .v (.int .i64 0)), (18, .sl 2 (((BI a ++ (if 0 < (scL a).length ∧ iAt (scL a) (((scL a).length : Int) - 1) = 1 then [(((nR a : Int) + 1) - 1, 2)] else []) ++ (if 0 < (scL b).length then [(((nR a : Int) + 1), 2)] else [])) ++ (BI b).map (sh2 ((nR a : Int) + 1))).map e2)), (19, .v (.int .i64 0)), (20, .v v), (21, .v (.int .i64 i))]) [.row v 46 2 (((BI a ++ (if 0 < (scL a).length ∧ iAt (scL a) (((scL a).length : Int) - 1) = 1 then [(((nR a : Int) + 1) - 1, 2)] else []) ++ (if 0 < (scL b).length then [(((nR a : Int) + 1), 2)] else [])) ++ ((BI b).map (sh2 ((nR a : Int) + 1))).take i).map e2)]
              (iterate 2 refine TC.seq ?_); refine TC.region ?_; (iterate 2 refine TL.run1 (pure_move rfl) rfl ?_); refine TL.run1 (pure_len Ty.sl39 rfl) rfl ?_; refine TL.run1 (pure_lss rfl rfl) rfl ?_; refine TL.nil' ?_; refine TC.condD rfl (fun hc194 => ?_) (fun hc194 => ?_)
              · try dsimp only at hc194
                refine TC.skip' ?_; refine TC.seq ?_; refine TC.block ?_
                have hil : i < (BI b).length := by omega
                have htr := BI_at hil
                have hrb := row2 (BI b) i hil
                have hwl : (((BI a ++ (if 0 < (scL a).length ∧ iAt (scL a) (((scL a).length : Int) - 1) = 1 then [(((nR a : Int) + 1) - 1, 2)] else []) ++ (if 0 < (scL b).length then [(((nR a : Int) + 1), 2)] else [])) ++ ((BI b).map (sh2 ((nR a : Int) + 1))).take i).map e2).length ≤ 1000 := by (rw [List.length_map, List.length_append, List.length_take, List.length_map]; omega)
                refine TC.drawTailN 15 Ty.follows (by kernel_rfl) (by kernel_rfl) ?_
                simp only [List.take_succ_cons, List.take_zero, List.drop_succ_cons, List.drop_zero]
                (iterate 3 refine TD.run1 (pure_move rfl) rfl ?_); refine TD.run1 (pure_indexAddr Ty.sl39 rfl rfl (by omega) hrb (List.cons_ne_nil _ _)) rfl ?_; refine TD.run1 (pure_fieldAddr Ty.f46_0 rfl (.zero _) (List.cons_ne_nil _ _)) rfl ?_; refine TD.run1 (pure_load1 Ty.one3 rfl) rfl ?_; refine TD.run1 (pure_move rfl) rfl ?_; refine TD.run1 (pure_add rfl rfl (mkI64 (by omega) (by omega))) rfl ?_; (iterate 2 refine TD.run1 (pure_move rfl) rfl ?_); refine TD.run1 (pure_indexAddr Ty.sl39 rfl rfl (by omega) hrb (List.cons_ne_nil _ _)) rfl ?_; refine TD.run1 (pure_fieldAddr Ty.f46_1 rfl (.succ (.zero _)) (List.cons_ne_nil _ _)) rfl ?_; refine TD.run1 (pure_load1 Ty.one3 rfl) rfl ?_; refine TD.run1 (pure_build Ty.pl46 Ty.zero46 (.cons rfl rfl (.one rfl) rfl (.here (.nil _)) (.cons rfl rfl (.one rfl) rfl (.skip (.here (.nil _))) (.nil _)))) rfl ?_; refine TD.run1 (pure_buildSlice (xs := [.tmp 210]) Ty.app39 (by decide) rfl rfl (.cons rfl (.agg _) rfl .nil)) rfl ?_; refine TD.nil ?_
                show TL _ _ _ _ _ _
                refine TL.append Ty.app39 rfl rfl (by intro _; repeat (first | exact UpdR.here _ | apply UpdR.there)) (by simp only [List.length_append, List.length_cons, List.length_nil]; omega) (by simp only [List.length_append, List.length_cons, List.length_nil]; omega) rfl (fun v212 hv212 => ?_); refine TL.run1 (pure_assign rfl) rfl ?_; refine TL.nil ?_; refine block_normal ?_; refine then_normal ?_; refine TC.region ?_; refine TL.run1 (pure_move rfl) rfl ?_; refine TL.run1 (pure_add rfl rfl (mkI64 (by omega) (by omega))) rfl ?_; refine TL.run1 (pure_assign rfl) rfl ?_; refine TL.nil ?_
                have hst : ((BI a ++ (if 0 < (scL a).length ∧ iAt (scL a) (((scL a).length : Int) - 1) = 1 then [(((nR a : Int) + 1) - 1, 2)] else []) ++ (if 0 < (scL b).length then [(((nR a : Int) + 1), 2)] else [])) ++ ((BI b).map (sh2 ((nR a : Int) + 1))).take (i + 1)).map e2 = ((BI a ++ (if 0 < (scL a).length ∧ iAt (scL a) (((scL a).length : Int) - 1) = 1 then [(((nR a : Int) + 1) - 1, 2)] else []) ++ (if 0 < (scL b).length then [(((nR a : Int) + 1), 2)] else [])) ++ ((BI b).map (sh2 ((nR a : Int) + 1))).take i).map e2 ++ [[.v (.int .i64 ((yA (BI b) i).1 + ((nR a : Int) + 1))), .v (.int .i64 (yA (BI b) i).2)]] := by (rw [yA_map _ _ _ hil, ← List.append_assoc, List.map_append]; rfl)
                refine loop_next (i + 1, v212) ⟨by ((try dsimp only); rw [show (((i + 1 : Nat)) : Int) = (i : Int) + 1 by omega]; repeat (first | exact Agree.nil | refine Agree.cons rfl ?_)), by (try dsimp only); rw [hst]; repeat (first | exact List.nil_sublist _ | exact List.Sublist.refl _ | apply List.Sublist.cons_cons | apply List.Sublist.cons)⟩ (show i + 1 ≤ _ by omega) (by (try dsimp only); omega)
              · try dsimp only at hc194
                refine TC.exit ?_; refine then_exit ?_; refine loop_exit ?_; refine block_here ?_; refine then_normal ?_; refine TC.seq ?_
                have hie : i = (BI b).length := by omega
                have hwm : ((BI a ++ (if 0 < (scL a).length ∧ iAt (scL a) (((scL a).length : Int) - 1) = 1 then [(((nR a : Int) + 1) - 1, 2)] else []) ++ (if 0 < (scL b).length then [(((nR a : Int) + 1), 2)] else [])) ++ ((BI b).map (sh2 ((nR a : Int) + 1))).take i) = ((BI a ++ (if 0 < (scL a).length ∧ iAt (scL a) (((scL a).length : Int) - 1) = 1 then [(((nR a : Int) + 1) - 1, 2)] else []) ++ (if 0 < (scL b).length then [(((nR a : Int) + 1), 2)] else [])) ++ (BI b).map (sh2 ((nR a : Int) + 1))) := by (rw [List.take_of_length_le (by rw [List.length_map]; omega)])
                rw [hwm]
                refine TC.frz 20 [] (List.nil_sublist _) rfl (.rowS (xs := ((BI a ++ (if 0 < (scL a).length ∧ iAt (scL a) (((scL a).length : Int) - 1) = 1 then [(((nR a : Int) + 1) - 1, 2)] else []) ++ (if 0 < (scL b).length then [(((nR a : Int) + 1), 2)] else [])) ++ (BI b).map (sh2 ((nR a : Int) + 1))).map e2) (gone_nil (by repeat (first | exact List.Mem.head _ | apply List.Mem.tail))) (by decide) (e2_each _)) ?_
                have hwwl : (((BI a ++ (if 0 < (scL a).length ∧ iAt (scL a) (((scL a).length : Int) - 1) = 1 then [(((nR a : Int) + 1) - 1, 2)] else []) ++ (if 0 < (scL b).length then [(((nR a : Int) + 1), 2)] else [])) ++ (BI b).map (sh2 ((nR a : Int) + 1))).map e2).length = ((BI a ++ (if 0 < (scL a).length ∧ iAt (scL a) (((scL a).length : Int) - 1) = 1 then [(((nR a : Int) + 1) - 1, 2)] else []) ++ (if 0 < (scL b).length then [(((nR a : Int) + 1), 2)] else [])) ++ (BI b).map (sh2 ((nR a : Int) + 1))).length := List.length_map _
                have hww2 : ((BI a ++ (if 0 < (scL a).length ∧ iAt (scL a) (((scL a).length : Int) - 1) = 1 then [(((nR a : Int) + 1) - 1, 2)] else []) ++ (if 0 < (scL b).length then [(((nR a : Int) + 1), 2)] else [])) ++ (BI b).map (sh2 ((nR a : Int) + 1))).length ≤ 1000 := by (rw [List.length_append, List.length_map]; omega)
                refine TC.regionCut [213, 214, 215, 216, 217, 218, 219, 220, 221, 222, 223, 224, 225, 226, 227, 228, 229] 229 (False) ?_ ?_
                · skip
                  refine TL.run1 (pure_move rfl) rfl ?_; refine TL.run1 (pure_neq rfl rfl) rfl ?_; refine TL.run1 (pure_move rfl) rfl ?_; refine TL.splitP 215 rfl (fun hg215 => ?_) (fun hg215 => ?_)
                  · try dsimp only at hg215
                    (iterate 2 refine TL.passG rfl rfl rfl rfl ?_); refine TL.run1 (pure_pick_true rfl rfl) rfl ?_; refine TL.run1 (pure_move rfl) rfl ?_; (iterate 2 refine TL.passG rfl rfl rfl rfl ?_); refine TL.run1 (pure_pick_true rfl rfl) rfl ?_; refine TL.run1 (pure_move rfl) rfl ?_; (iterate 5 refine TL.passG rfl rfl rfl rfl ?_); refine TL.run1 (pure_pick_true rfl rfl) rfl ?_; refine TL.cutEnd (by repeat (first | exact Same.refl _ _ | refine Same.put rfl ?_)) rfl ?_
                    first | (simp; done) | (simp_all; done) | (simp_all; omega)
                  · try dsimp only at hg215
                    refine TL.runG rfl rfl (pure_move rfl) rfl ?_; refine TL.runG rfl rfl (pure_neq rfl rfl) rfl ?_; refine TL.run1 (pure_pick_false rfl rfl) rfl ?_; refine TL.run1 (pure_move rfl) rfl ?_; refine TL.splitP 219 rfl (fun hg219 => ?_) (fun hg219 => ?_)
                    · try dsimp only at hg219
                      (iterate 2 refine TL.passG rfl rfl rfl rfl ?_); refine TL.run1 (pure_pick_true rfl rfl) rfl ?_; refine TL.run1 (pure_move rfl) rfl ?_; (iterate 5 refine TL.passG rfl rfl rfl rfl ?_); refine TL.run1 (pure_pick_true rfl rfl) rfl ?_; refine TL.cutEnd (by repeat (first | exact Same.refl _ _ | refine Same.put rfl ?_)) rfl ?_
                      first | (simp; done) | (simp_all; done) | (simp_all; omega)
                    · try dsimp only at hg219
                      refine TL.runG rfl rfl (pure_move rfl) rfl ?_; refine TL.runG rfl rfl (pure_neq rfl rfl) rfl ?_; refine TL.run1 (pure_pick_false rfl rfl) rfl ?_; refine TL.run1 (pure_move rfl) rfl ?_; refine TL.splitP 223 rfl (fun hg223 => ?_) (fun hg223 => ?_)
                      · try dsimp only at hg223
                        (iterate 5 refine TL.passG rfl rfl rfl rfl ?_); refine TL.run1 (pure_pick_true rfl rfl) rfl ?_; refine TL.cutEnd (by repeat (first | exact Same.refl _ _ | refine Same.put rfl ?_)) rfl ?_
                        first | (simp; done) | (simp_all; done) | (simp_all; omega)
                      · try dsimp only at hg223
                        refine TL.runG rfl rfl (pure_move rfl) rfl ?_; refine TL.runG rfl rfl (pure_len Ty.sl39 rfl) rfl ?_; refine TL.runG rfl rfl (pure_move rfl) rfl ?_; refine TL.runG rfl rfl (pure_len Ty.sl39 rfl) rfl ?_; refine TL.runG rfl rfl (pure_neq rfl rfl) rfl ?_; refine TL.run1 (pure_pick_false rfl rfl) rfl ?_; refine TL.cutEnd (by repeat (first | exact Same.refl _ _ | refine Same.put rfl ?_)) rfl ?_
                        first | (simp; done) | (simp_all; done) | (simp_all; omega)
                refine TC.condD rfl (fun hc229 => ?_) (fun hc229 => ?_)
                · try dsimp only at hc229
                  all_goals exact hc229.elim
                · try dsimp only at hc229
                  refine TC.skip' ?_; (iterate 2 refine TC.seq ?_); refine TC.region ?_; refine TL.run1 (pure_assign rfl) rfl ?_; refine TL.nil' ?_; refine TC.block ?_; refine TC.loopX (X := Nat) (fun k => [(18, .sl 2 (((BI a ++ (if 0 < (scL a).length ∧ iAt (scL a) (((scL a).length : Int) - 1) = 1 then [(((nR a : Int) + 1) - 1, 2)] else []) ++ (if 0 < (scL b).length then [(((nR a : Int) + 1), 2)] else [])) ++ (BI b).map (sh2 ((nR a : Int) + 1))).map e2)), (20, .sl 2 (((BI a ++ (if 0 < (scL a).length ∧ iAt (scL a) (((scL a).length : Int) - 1) = 1 then [(((nR a : Int) + 1) - 1, 2)] else []) ++ (if 0 < (scL b).length then [(((nR a : Int) + 1), 2)] else [])) ++ (BI b).map (sh2 ((nR a : Int) + 1))).map e2)), (22, .v (.int .i64 k))]) (fun k => []) (fun k => (k ≤ ((BI a ++ (if 0 < (scL a).length ∧ iAt (scL a) (((scL a).length : Int) - 1) = 1 then [(((nR a : Int) + 1) - 1, 2)] else []) ++ (if 0 < (scL b).length then [(((nR a : Int) + 1), 2)] else [])) ++ (BI b).map (sh2 ((nR a : Int) + 1))).length)) (fun k => ((BI a ++ (if 0 < (scL a).length ∧ iAt (scL a) (((scL a).length : Int) - 1) = 1 then [(((nR a : Int) + 1) - 1, 2)] else []) ++ (if 0 < (scL b).length then [(((nR a : Int) + 1), 2)] else [])) ++ (BI b).map (sh2 ((nR a : Int) + 1))).length - k) (0) ⟨by skip; repeat (first | exact Agree.nil | refine Agree.cons rfl ?_), by skip; repeat (first | exact List.nil_sublist _ | exact List.Sublist.refl _ | apply List.Sublist.cons_cons | apply List.Sublist.cons)⟩ ?_ ?_
                  · skip
                    exact Nat.zero_le _
                  intro k
                  intro h2
                  show TC _ _ _ (Env.of [(18, .sl 2 (((BI a ++ (if 0 < (scL a).length ∧ iAt (scL a) (((scL a).length : Int) - 1) = 1 then [(((nR a : Int) + 1) - 1, 2)] else []) ++ (if 0 < (scL b).length then [(((nR a : Int) + 1), 2)] else [])) ++ (BI b).map (sh2 ((nR a : Int) + 1))).map e2)), (20, .sl 2 (((BI a ++ (if 0 < (scL a).length ∧ iAt (scL a) (((scL a).length : Int) - 1) = 1 then [(((nR a : Int) + 1) - 1, 2)] else []) ++ (if 0 < (scL b).length then [(((nR a : Int) + 1), 2)] else [])) ++ (BI b).map (sh2 ((nR a : Int) + 1))).map e2)), (22, .v (.int .i64 k))]) []
                  (iterate 2 refine TC.seq ?_); refine TC.region ?_; (iterate 2 refine TL.run1 (pure_move rfl) rfl ?_); refine TL.run1 (pure_len Ty.sl39 rfl) rfl ?_; refine TL.run1 (pure_lss rfl rfl) rfl ?_; refine TL.nil' ?_; refine TC.condD rfl (fun hc233 => ?_) (fun hc233 => ?_)
                  · try dsimp only at hc233
                    refine TC.skip' ?_; refine TC.seq ?_; refine TC.block ?_
                    have hkl : k < ((BI a ++ (if 0 < (scL a).length ∧ iAt (scL a) (((scL a).length : Int) - 1) = 1 then [(((nR a : Int) + 1) - 1, 2)] else []) ++ (if 0 < (scL b).length then [(((nR a : Int) + 1), 2)] else [])) ++ (BI b).map (sh2 ((nR a : Int) + 1))).length := by omega
                    have hrw := row2 ((BI a ++ (if 0 < (scL a).length ∧ iAt (scL a) (((scL a).length : Int) - 1) = 1 then [(((nR a : Int) + 1) - 1, 2)] else []) ++ (if 0 < (scL b).length then [(((nR a : Int) + 1), 2)] else [])) ++ (BI b).map (sh2 ((nR a : Int) + 1))) k hkl
                    refine TC.drawCut [236, 237, 238, 239, 240, 241, 242, 243, 244] 244 (False) Ty.follows (by kernel_rfl) ?_ ?_
                    · skip
                      (iterate 2 refine TD.run1 (pure_move rfl) rfl ?_); refine TD.run1 (pure_indexAddr Ty.sl39 rfl rfl (by omega) hrw (List.cons_ne_nil _ _)) rfl ?_; refine TD.run1 (pure_load Ty.agg46 rfl (.succ (.succ (.zero _)))) rfl ?_; (iterate 2 refine TD.run1 (pure_move rfl) rfl ?_); refine TD.run1 (pure_indexAddr Ty.sl39 rfl rfl (by omega) hrw (List.cons_ne_nil _ _)) rfl ?_; refine TD.run1 (pure_load Ty.agg46 rfl (.succ (.succ (.zero _)))) rfl ?_; refine TD.run1 (pure_neq_agg Ty.eq46 rfl rfl (.cons (.cons .nil)) (.cons (.cons .nil)) rfl rfl) rfl ?_; refine TD.cutEnd (by repeat (first | exact Same.refl _ _ | refine Same.put rfl ?_)) rfl ?_
                      simp
                    refine TC.condD rfl (fun hc244 => ?_) (fun hc244 => ?_)
                    · try dsimp only at hc244
                      all_goals exact hc244.elim
                    · try dsimp only at hc244
                      refine TC.skip ?_; refine block_normal ?_; refine then_normal ?_; refine TC.region ?_; refine TL.run1 (pure_move rfl) rfl ?_; refine TL.run1 (pure_add rfl rfl (mkI64 (by omega) (by omega))) rfl ?_; refine TL.run1 (pure_assign rfl) rfl ?_; refine TL.nil ?_; refine loop_next (k + 1) ⟨by ((try dsimp only); rw [show (((k + 1 : Nat)) : Int) = (k : Int) + 1 by omega]; repeat (first | exact Agree.nil | refine Agree.cons rfl ?_)), by repeat (first | exact List.nil_sublist _ | exact List.Sublist.refl _ | apply List.Sublist.cons_cons | apply List.Sublist.cons)⟩ (show k + 1 ≤ _ by omega) (by omega)
                  · try dsimp only at hc233
                    refine TC.exit ?_; refine then_exit ?_; refine loop_exit ?_; refine block_here ?_; refine then_normal ?_; refine TC.seq ?_; refine TC.region ?_; refine TL.run1 (pure_assign rfl) rfl ?_; refine TL.nil' ?_; refine TC.ret ?_
                    exact ret_bool rfl (by simp)
            · try dsimp only at hc185
              refine TC.skip' ?_; (iterate 2 refine TC.seq ?_)
              obtain ⟨vk, hvk⟩ : ∃ v : Value, v = v182 := ⟨_, rfl⟩
              rw [← hvk]
              have hq3 : ¬ 0 < (scL b).length := fun h => hc185 (by have := hsb.2 h; omega)
              have hw0 : (([] ++ (BI a).map e2) ++ [D.v (.int .i64 (((nR a : Int) + 1) - 1)) :: D.v (.int .i64 2) :: List.map D.v []]) = ((BI a ++ (if 0 < (scL a).length ∧ iAt (scL a) (((scL a).length : Int) - 1) = 1 then [(((nR a : Int) + 1) - 1, 2)] else []) ++ (if 0 < (scL b).length then [(((nR a : Int) + 1), 2)] else [])) ++ ((BI b).map (sh2 ((nR a : Int) + 1))).take 0).map e2 := by (rw [if_pos hc176, if_neg hq3, List.take_zero]; simp [e2])
              rw [hw0]
              have hw0l : (BI a ++ (if 0 < (scL a).length ∧ iAt (scL a) (((scL a).length : Int) - 1) = 1 then [(((nR a : Int) + 1) - 1, 2)] else []) ++ (if 0 < (scL b).length then [(((nR a : Int) + 1), 2)] else [])).length ≤ 300 := by (simp only [List.length_append]; have h1 : (if 0 < (scL a).length ∧ iAt (scL a) (((scL a).length : Int) - 1) = 1 then [(((nR a : Int) + 1) - 1, (2 : Int))] else []).length ≤ 1 := (by split <;> simp); have h2 : (if 0 < (scL b).length then [(((nR a : Int) + 1), (2 : Int))] else []).length ≤ 1 := (by split <;> simp); omega)
              refine TC.region ?_; refine TL.run1 (pure_assign rfl) rfl ?_; refine TL.nil' ?_; refine TC.block ?_; refine TC.loopX (X := Nat × Value) (fun (i, v) => [(11, .v (.int .i64 ((nR a : Int) + 1))), (15, .v (.int .i64 0)), (16, .sl 2 ((BI b).map e2)), (17, .v (.int .i64 0)), (18, .sl 2 (((BI a ++ (if 0 < (scL a).length ∧ iAt (scL a) (((scL a).length : Int) - 1) = 1 then [(((nR a : Int) + 1) - 1, 2)] else []) ++ (if 0 < (scL b).length then [(((nR a : Int) + 1), 2)] else [])) ++ (BI b).map (sh2 ((nR a : Int) + 1))).map e2)), (19, .v (.int .i64 0)), (20, .v v), (21, .v (.int .i64 i))]) (fun (i, v) => [.row v 46 2 (((BI a ++ (if 0 < (scL a).length ∧ iAt (scL a) (((scL a).length : Int) - 1) = 1 then [(((nR a : Int) + 1) - 1, 2)] else []) ++ (if 0 < (scL b).length then [(((nR a : Int) + 1), 2)] else [])) ++ ((BI b).map (sh2 ((nR a : Int) + 1))).take i).map e2)]) (fun (i, v) => (i ≤ (BI b).length)) (fun (i, v) => (BI b).length - i) (0, vk) ⟨by skip; repeat (first | exact Agree.nil | refine Agree.cons rfl ?_), by skip; repeat (first | exact List.nil_sublist _ | exact List.Sublist.refl _ | apply List.Sublist.cons_cons | apply List.Sublist.cons)⟩ ?_ ?_
              · skip
                exact Nat.zero_le _
              rintro ⟨i, v⟩
              intro h1
              show TC _ _ _ (Env.of [(11, .v (.int .i64 ((nR a : Int) + 1))), (15, .v (.int .i64 0)), (16, .sl 2 ((BI b).map e2)), (17, .v (.int .i64 0)), (18, .sl 2 (((BI a ++ (if 0 < (scL a).length ∧ iAt (scL a) (((scL a).length : Int) - 1) = 1 then [(((nR a : Int) + 1) - 1, 2)] else []) ++ (if 0 < (scL b).length then [(((nR a : Int) + 1), 2)] else [])) ++ (BI b).map (sh2 ((nR a : Int) + 1))).map e2)), (19, .v (.int .i64 0)), (20, .v v), (21, .v (.int .i64 i))]) [.row v 46 2 (((BI a ++ (if 0 < (scL a).length ∧ iAt (scL a) (((scL a).length : Int) - 1) = 1 then [(((nR a : Int) + 1) - 1, 2)] else []) ++ (if 0 < (scL b).length then [(((nR a : Int) + 1), 2)] else [])) ++ ((BI b).map (sh2 ((nR a : Int) + 1))).take i).map e2)]
              (iterate 2 refine TC.seq ?_); refine TC.region ?_; (iterate 2 refine TL.run1 (pure_move rfl) rfl ?_); refine TL.run1 (pure_len Ty.sl39 rfl) rfl ?_; refine TL.run1 (pure_lss rfl rfl) rfl ?_; refine TL.nil' ?_; refine TC.condD rfl (fun hc194 => ?_) (fun hc194 => ?_)
              · try dsimp only at hc194
                refine TC.skip' ?_; refine TC.seq ?_; refine TC.block ?_
                have hil : i < (BI b).length := by omega
                have htr := BI_at hil
                have hrb := row2 (BI b) i hil
                have hwl : (((BI a ++ (if 0 < (scL a).length ∧ iAt (scL a) (((scL a).length : Int) - 1) = 1 then [(((nR a : Int) + 1) - 1, 2)] else []) ++ (if 0 < (scL b).length then [(((nR a : Int) + 1), 2)] else [])) ++ ((BI b).map (sh2 ((nR a : Int) + 1))).take i).map e2).length ≤ 1000 := by (rw [List.length_map, List.length_append, List.length_take, List.length_map]; omega)
                refine TC.drawTailN 15 Ty.follows (by kernel_rfl) (by kernel_rfl) ?_
                simp only [List.take_succ_cons, List.take_zero, List.drop_succ_cons, List.drop_zero]
                (iterate 3 refine TD.run1 (pure_move rfl) rfl ?_); refine TD.run1 (pure_indexAddr Ty.sl39 rfl rfl (by omega) hrb (List.cons_ne_nil _ _)) rfl ?_; refine TD.run1 (pure_fieldAddr Ty.f46_0 rfl (.zero _) (List.cons_ne_nil _ _)) rfl ?_; refine TD.run1 (pure_load1 Ty.one3 rfl) rfl ?_; refine TD.run1 (pure_move rfl) rfl ?_; refine TD.run1 (pure_add rfl rfl (mkI64 (by omega) (by omega))) rfl ?_; (iterate 2 refine TD.run1 (pure_move rfl) rfl ?_); refine TD.run1 (pure_indexAddr Ty.sl39 rfl rfl (by omega) hrb (List.cons_ne_nil _ _)) rfl ?_; refine TD.run1 (pure_fieldAddr Ty.f46_1 rfl (.succ (.zero _)) (List.cons_ne_nil _ _)) rfl ?_; refine TD.run1 (pure_load1 Ty.one3 rfl) rfl ?_; refine TD.run1 (pure_build Ty.pl46 Ty.zero46 (.cons rfl rfl (.one rfl) rfl (.here (.nil _)) (.cons rfl rfl (.one rfl) rfl (.skip (.here (.nil _))) (.nil _)))) rfl ?_; refine TD.run1 (pure_buildSlice (xs := [.tmp 210]) Ty.app39 (by decide) rfl rfl (.cons rfl (.agg _) rfl .nil)) rfl ?_; refine TD.nil ?_
                show TL _ _ _ _ _ _
                refine TL.append Ty.app39 rfl rfl (by intro _; repeat (first | exact UpdR.here _ | apply UpdR.there)) (by simp only [List.length_append, List.length_cons, List.length_nil]; omega) (by simp only [List.length_append, List.length_cons, List.length_nil]; omega) rfl (fun v212 hv212 => ?_); refine TL.run1 (pure_assign rfl) rfl ?_; refine TL.nil ?_; refine block_normal ?_; refine then_normal ?_; refine TC.region ?_; refine TL.run1 (pure_move rfl) rfl ?_; refine TL.run1 (pure_add rfl rfl (mkI64 (by omega) (by omega))) rfl ?_; refine TL.run1 (pure_assign rfl) rfl ?_; refine TL.nil ?_
                have hst : ((BI a ++ (if 0 < (scL a).length ∧ iAt (scL a) (((scL a).length : Int) - 1) = 1 then [(((nR a : Int) + 1) - 1, 2)] else []) ++ (if 0 < (scL b).length then [(((nR a : Int) + 1), 2)] else [])) ++ ((BI b).map (sh2 ((nR a : Int) + 1))).take (i + 1)).map e2 = ((BI a ++ (if 0 < (scL a).length ∧ iAt (scL a) (((scL a).length : Int) - 1) = 1 then [(((nR a : Int) + 1) - 1, 2)] else []) ++ (if 0 < (scL b).length then [(((nR a : Int) + 1), 2)] else [])) ++ ((BI b).map (sh2 ((nR a : Int) + 1))).take i).map e2 ++ [[.v (.int .i64 ((yA (BI b) i).1 + ((nR a : Int) + 1))), .v (.int .i64 (yA (BI b) i).2)]] := by (rw [yA_map _ _ _ hil, ← List.append_assoc, List.map_append]; rfl)
                refine loop_next (i + 1, v212) ⟨by ((try dsimp only); rw [show (((i + 1 : Nat)) : Int) = (i : Int) + 1 by omega]; repeat (first | exact Agree.nil | refine Agree.cons rfl ?_)), by (try dsimp only); rw [hst]; repeat (first | exact List.nil_sublist _ | exact List.Sublist.refl _ | apply List.Sublist.cons_cons | apply List.Sublist.cons)⟩ (show i + 1 ≤ _ by omega) (by (try dsimp only); omega)
              · try dsimp only at hc194
                refine TC.exit ?_; refine then_exit ?_; refine loop_exit ?_; refine block_here ?_; refine then_normal ?_; refine TC.seq ?_
                have hie : i = (BI b).length := by omega
                have hwm : ((BI a ++ (if 0 < (scL a).length ∧ iAt (scL a) (((scL a).length : Int) - 1) = 1 then [(((nR a : Int) + 1) - 1, 2)] else []) ++ (if 0 < (scL b).length then [(((nR a : Int) + 1), 2)] else [])) ++ ((BI b).map (sh2 ((nR a : Int) + 1))).take i) = ((BI a ++ (if 0 < (scL a).length ∧ iAt (scL a) (((scL a).length : Int) - 1) = 1 then [(((nR a : Int) + 1) - 1, 2)] else []) ++ (if 0 < (scL b).length then [(((nR a : Int) + 1), 2)] else [])) ++ (BI b).map (sh2 ((nR a : Int) + 1))) := by (rw [List.take_of_length_le (by rw [List.length_map]; omega)])
                rw [hwm]
                refine TC.frz 20 [] (List.nil_sublist _) rfl (.rowS (xs := ((BI a ++ (if 0 < (scL a).length ∧ iAt (scL a) (((scL a).length : Int) - 1) = 1 then [(((nR a : Int) + 1) - 1, 2)] else []) ++ (if 0 < (scL b).length then [(((nR a : Int) + 1), 2)] else [])) ++ (BI b).map (sh2 ((nR a : Int) + 1))).map e2) (gone_nil (by repeat (first | exact List.Mem.head _ | apply List.Mem.tail))) (by decide) (e2_each _)) ?_
                have hwwl : (((BI a ++ (if 0 < (scL a).length ∧ iAt (scL a) (((scL a).length : Int) - 1) = 1 then [(((nR a : Int) + 1) - 1, 2)] else []) ++ (if 0 < (scL b).length then [(((nR a : Int) + 1), 2)] else [])) ++ (BI b).map (sh2 ((nR a : Int) + 1))).map e2).length = ((BI a ++ (if 0 < (scL a).length ∧ iAt (scL a) (((scL a).length : Int) - 1) = 1 then [(((nR a : Int) + 1) - 1, 2)] else []) ++ (if 0 < (scL b).length then [(((nR a : Int) + 1), 2)] else [])) ++ (BI b).map (sh2 ((nR a : Int) + 1))).length := List.length_map _
                have hww2 : ((BI a ++ (if 0 < (scL a).length ∧ iAt (scL a) (((scL a).length : Int) - 1) = 1 then [(((nR a : Int) + 1) - 1, 2)] else []) ++ (if 0 < (scL b).length then [(((nR a : Int) + 1), 2)] else [])) ++ (BI b).map (sh2 ((nR a : Int) + 1))).length ≤ 1000 := by (rw [List.length_append, List.length_map]; omega)
                refine TC.regionCut [213, 214, 215, 216, 217, 218, 219, 220, 221, 222, 223, 224, 225, 226, 227, 228, 229] 229 (False) ?_ ?_
                · skip
                  refine TL.run1 (pure_move rfl) rfl ?_; refine TL.run1 (pure_neq rfl rfl) rfl ?_; refine TL.run1 (pure_move rfl) rfl ?_; refine TL.splitP 215 rfl (fun hg215 => ?_) (fun hg215 => ?_)
                  · try dsimp only at hg215
                    (iterate 2 refine TL.passG rfl rfl rfl rfl ?_); refine TL.run1 (pure_pick_true rfl rfl) rfl ?_; refine TL.run1 (pure_move rfl) rfl ?_; (iterate 2 refine TL.passG rfl rfl rfl rfl ?_); refine TL.run1 (pure_pick_true rfl rfl) rfl ?_; refine TL.run1 (pure_move rfl) rfl ?_; (iterate 5 refine TL.passG rfl rfl rfl rfl ?_); refine TL.run1 (pure_pick_true rfl rfl) rfl ?_; refine TL.cutEnd (by repeat (first | exact Same.refl _ _ | refine Same.put rfl ?_)) rfl ?_
                    first | (simp; done) | (simp_all; done) | (simp_all; omega)
                  · try dsimp only at hg215
                    refine TL.runG rfl rfl (pure_move rfl) rfl ?_; refine TL.runG rfl rfl (pure_neq rfl rfl) rfl ?_; refine TL.run1 (pure_pick_false rfl rfl) rfl ?_; refine TL.run1 (pure_move rfl) rfl ?_; refine TL.splitP 219 rfl (fun hg219 => ?_) (fun hg219 => ?_)
                    · try dsimp only at hg219
                      (iterate 2 refine TL.passG rfl rfl rfl rfl ?_); refine TL.run1 (pure_pick_true rfl rfl) rfl ?_; refine TL.run1 (pure_move rfl) rfl ?_; (iterate 5 refine TL.passG rfl rfl rfl rfl ?_); refine TL.run1 (pure_pick_true rfl rfl) rfl ?_; refine TL.cutEnd (by repeat (first | exact Same.refl _ _ | refine Same.put rfl ?_)) rfl ?_
                      first | (simp; done) | (simp_all; done) | (simp_all; omega)
                    · try dsimp only at hg219
                      refine TL.runG rfl rfl (pure_move rfl) rfl ?_; refine TL.runG rfl rfl (pure_neq rfl rfl) rfl ?_; refine TL.run1 (pure_pick_false rfl rfl) rfl ?_; refine TL.run1 (pure_move rfl) rfl ?_; refine TL.splitP 223 rfl (fun hg223 => ?_) (fun hg223 => ?_)
                      · try dsimp only at hg223
                        (iterate 5 refine TL.passG rfl rfl rfl rfl ?_); refine TL.run1 (pure_pick_true rfl rfl) rfl ?_; refine TL.cutEnd (by repeat (first | exact Same.refl _ _ | refine Same.put rfl ?_)) rfl ?_
                        first | (simp; done) | (simp_all; done) | (simp_all; omega)
                      · try dsimp only at hg223
                        refine TL.runG rfl rfl (pure_move rfl) rfl ?_; refine TL.runG rfl rfl (pure_len Ty.sl39 rfl) rfl ?_; refine TL.runG rfl rfl (pure_move rfl) rfl ?_; refine TL.runG rfl rfl (pure_len Ty.sl39 rfl) rfl ?_; refine TL.runG rfl rfl (pure_neq rfl rfl) rfl ?_; refine TL.run1 (pure_pick_false rfl rfl) rfl ?_; refine TL.cutEnd (by repeat (first | exact Same.refl _ _ | refine Same.put rfl ?_)) rfl ?_
                        first | (simp; done) | (simp_all; done) | (simp_all; omega)
                refine TC.condD rfl (fun hc229 => ?_) (fun hc229 => ?_)
                · try dsimp only at hc229
                  all_goals exact hc229.elim
                · try dsimp only at hc229
                  refine TC.skip' ?_; (iterate 2 refine TC.seq ?_); refine TC.region ?_; refine TL.run1 (pure_assign rfl) rfl ?_; refine TL.nil' ?_; refine TC.block ?_; refine TC.loopX (X := Nat) (fun k => [(18, .sl 2 (((BI a ++ (if 0 < (scL a).length ∧ iAt (scL a) (((scL a).length : Int) - 1) = 1 then [(((nR a : Int) + 1) - 1, 2)] else []) ++ (if 0 < (scL b).length then [(((nR a : Int) + 1), 2)] else [])) ++ (BI b).map (sh2 ((nR a : Int) + 1))).map e2)), (20, .sl 2 (((BI a ++ (if 0 < (scL a).length ∧ iAt (scL a) (((scL a).length : Int) - 1) = 1 then [(((nR a : Int) + 1) - 1, 2)] else []) ++ (if 0 < (scL b).length then [(((nR a : Int) + 1), 2)] else [])) ++ (BI b).map (sh2 ((nR a : Int) + 1))).map e2)), (22, .v (.int .i64 k))]) (fun k => []) (fun k => (k ≤ ((BI a ++ (if 0 < (scL a).length ∧ iAt (scL a) (((scL a).length : Int) - 1) = 1 then [(((nR a : Int) + 1) - 1, 2)] else []) ++ (if 0 < (scL b).length then [(((nR a : Int) + 1), 2)] else [])) ++ (BI b).map (sh2 ((nR a : Int) + 1))).length)) (fun k => ((BI a ++ (if 0 < (scL a).length ∧ iAt (scL a) (((scL a).length : Int) - 1) = 1 then [(((nR a : Int) + 1) - 1, 2)] else []) ++ (if 0 < (scL b).length then [(((nR a : Int) + 1), 2)] else [])) ++ (BI b).map (sh2 ((nR a : Int) + 1))).length - k) (0) ⟨by skip; repeat (first | exact Agree.nil | refine Agree.cons rfl ?_), by skip; repeat (first | exact List.nil_sublist _ | exact List.Sublist.refl _ | apply List.Sublist.cons_cons | apply List.Sublist.cons)⟩ ?_ ?_
                  · skip
                    exact Nat.zero_le _
                  intro k
                  intro h2
                  show TC _ _ _ (Env.of [(18, .sl 2 (((BI a ++ (if 0 < (scL a).length ∧ iAt (scL a) (((scL a).length : Int) - 1) = 1 then [(((nR a : Int) + 1) - 1, 2)] else []) ++ (if 0 < (scL b).length then [(((nR a : Int) + 1), 2)] else [])) ++ (BI b).map (sh2 ((nR a : Int) + 1))).map e2)), (20, .sl 2 (((BI a ++ (if 0 < (scL a).length ∧ iAt (scL a) (((scL a).length : Int) - 1) = 1 then [(((nR a : Int) + 1) - 1, 2)] else []) ++ (if 0 < (scL b).length then [(((nR a : Int) + 1), 2)] else [])) ++ (BI b).map (sh2 ((nR a : Int) + 1))).map e2)), (22, .v (.int .i64 k))]) []
                  (iterate 2 refine TC.seq ?_); refine TC.region ?_; (iterate 2 refine TL.run1 (pure_move rfl) rfl ?_); refine TL.run1 (pure_len Ty.sl39 rfl) rfl ?_; refine TL.run1 (pure_lss rfl rfl) rfl ?_; refine TL.nil' ?_; refine TC.condD rfl (fun hc233 => ?_) (fun hc233 => ?_)
                  · try dsimp only at hc233
                    refine TC.skip' ?_; refine TC.seq ?_; refine TC.block ?_
                    have hkl : k < ((BI a ++ (if 0 < (scL a).length ∧ iAt (scL a) (((scL a).length : Int) - 1) = 1 then [(((nR a : Int) + 1) - 1, 2)] else []) ++ (if 0 < (scL b).length then [(((nR a : Int) + 1), 2)] else [])) ++ (BI b).map (sh2 ((nR a : Int) + 1))).length := by omega
                    have hrw := row2 ((BI a ++ (if 0 < (scL a).length ∧ iAt (scL a) (((scL a).length : Int) - 1) = 1 then [(((nR a : Int) + 1) - 1, 2)] else []) ++ (if 0 < (scL b).length then [(((nR a : Int) + 1), 2)] else [])) ++ (BI b).map (sh2 ((nR a : Int) + 1))) k hkl
                    refine TC.drawCut [236, 237, 238, 239, 240, 241, 242, 243, 244] 244 (False) Ty.follows (by kernel_rfl) ?_ ?_
                    · skip
                      (iterate 2 refine TD.run1 (pure_move rfl) rfl ?_); refine TD.run1 (pure_indexAddr Ty.sl39 rfl rfl (by omega) hrw (List.cons_ne_nil _ _)) rfl ?_; refine TD.run1 (pure_load Ty.agg46 rfl (.succ (.succ (.zero _)))) rfl ?_; (iterate 2 refine TD.run1 (pure_move rfl) rfl ?_); refine TD.run1 (pure_indexAddr Ty.sl39 rfl rfl (by omega) hrw (List.cons_ne_nil _ _)) rfl ?_; refine TD.run1 (pure_load Ty.agg46 rfl (.succ (.succ (.zero _)))) rfl ?_; refine TD.run1 (pure_neq_agg Ty.eq46 rfl rfl (.cons (.cons .nil)) (.cons (.cons .nil)) rfl rfl) rfl ?_; refine TD.cutEnd (by repeat (first | exact Same.refl _ _ | refine Same.put rfl ?_)) rfl ?_
                      simp
                    refine TC.condD rfl (fun hc244 => ?_) (fun hc244 => ?_)
                    · try dsimp only at hc244
                      all_goals exact hc244.elim
                    · try dsimp only at hc244
                      refine TC.skip ?_; refine block_normal ?_; refine then_normal ?_; refine TC.region ?_; refine TL.run1 (pure_move rfl) rfl ?_; refine TL.run1 (pure_add rfl rfl (mkI64 (by omega) (by omega))) rfl ?_; refine TL.run1 (pure_assign rfl) rfl ?_; refine TL.nil ?_; refine loop_next (k + 1) ⟨by ((try dsimp only); rw [show (((k + 1 : Nat)) : Int) = (k : Int) + 1 by omega]; repeat (first | exact Agree.nil | refine Agree.cons rfl ?_)), by repeat (first | exact List.nil_sublist _ | exact List.Sublist.refl _ | apply List.Sublist.cons_cons | apply List.Sublist.cons)⟩ (show k + 1 ≤ _ by omega) (by omega)
                  · try dsimp only at hc233
                    refine TC.exit ?_; refine then_exit ?_; refine loop_exit ?_; refine block_here ?_; refine then_normal ?_; refine TC.seq ?_; refine TC.region ?_; refine TL.run1 (pure_assign rfl) rfl ?_; refine TL.nil' ?_; refine TC.ret ?_
                    exact ret_bool rfl (by simp)
          · try dsimp only at hc176
            refine TC.skip' ?_; (iterate 2 refine TC.seq ?_); refine TC.region ?_; refine TL.run1 (pure_move rfl) rfl ?_; refine TL.run1 (pure_len_str Tryd.underlying9 rfl) rfl ?_; refine TL.run1 (pure_gtr rfl rfl) rfl ?_; refine TL.nil' ?_; refine TC.condD rfl (fun hc185 => ?_) (fun hc185 => ?_)
            · try dsimp only at hc185
              refine TC.region ?_; (iterate 2 refine TL.run1 (pure_move rfl) rfl ?_); refine TL.run1 (pure_build Ty.pl46 Ty.zero46 (.cons rfl rfl (.one rfl) rfl (.here (.nil _)) (.cons rfl rfl (.one rfl) rfl (.skip (.here (.nil _))) (.nil _)))) rfl ?_; refine TL.run1 (pure_buildSlice (xs := [.tmp 188]) Ty.app39 (by decide) rfl rfl (.cons rfl (.agg _) rfl .nil)) rfl ?_; refine TL.append Ty.app39 rfl rfl (by intro _; repeat (first | exact UpdR.here _ | apply UpdR.there)) (by simp only [List.length_append, List.length_cons, List.length_nil]; omega) (by simp only [List.length_append, List.length_cons, List.length_nil]; omega) rfl (fun v190 hv190 => ?_); refine TL.run1 (pure_assign rfl) rfl ?_; refine TL.nil' ?_; (iterate 2 refine TC.seq ?_)
              obtain ⟨vk, hvk⟩ : ∃ v : Value, v = v190 := ⟨_, rfl⟩
              rw [← hvk]
              have hq3 : 0 < (scL b).length := hsb.1 (by omega)
              have hw0 : (([] ++ (BI a).map e2) ++ [D.v (.int .i64 ((nR a : Int) + 1)) :: D.v (.int .i64 2) :: List.map D.v []]) = ((BI a ++ (if 0 < (scL a).length ∧ iAt (scL a) (((scL a).length : Int) - 1) = 1 then [(((nR a : Int) + 1) - 1, 2)] else []) ++ (if 0 < (scL b).length then [(((nR a : Int) + 1), 2)] else [])) ++ ((BI b).map (sh2 ((nR a : Int) + 1))).take 0).map e2 := by (rw [if_neg hc176, if_pos hq3, List.take_zero]; simp [e2])
              rw [hw0]
              have hw0l : (BI a ++ (if 0 < (scL a).length ∧ iAt (scL a) (((scL a).length : Int) - 1) = 1 then [(((nR a : Int) + 1) - 1, 2)] else []) ++ (if 0 < (scL b).length then [(((nR a : Int) + 1), 2)] else [])).length ≤ 300 := by (simp only [List.length_append]; have h1 : (if 0 < (scL a).length ∧ iAt (scL a) (((scL a).length : Int) - 1) = 1 then [(((nR a : Int) + 1) - 1, (2 : Int))] else []).length ≤ 1 := (by split <;> simp); have h2 : (if 0 < (scL b).length then [(((nR a : Int) + 1), (2 : Int))] else []).length ≤ 1 := (by split <;> simp); omega)
              refine TC.region ?_; refine TL.run1 (pure_assign rfl) rfl ?_; refine TL.nil' ?_; refine TC.block ?_; refine TC.loopX (X := Nat × Value) (fun (i, v) => [(11, .v (.int .i64 ((nR a : Int) + 1))), (15, .v (.int .i64 0)), (16, .sl 2 ((BI b).map e2)), (17, .v (.int .i64 0)), (18, .sl 2 (((BI a ++ (if 0 < (scL a).length ∧ iAt (scL a) (((scL a).length : Int) - 1) = 1 then [(((nR a : Int) + 1) - 1, 2)] else []) ++ (if 0 < (scL b).length then [(((nR a : Int) + 1), 2)] else [])) ++ (BI b).map (sh2 ((nR a : Int) + 1))).map e2)), (19, .v (.int .i64 0)), (20, .v v), (21, .v (.int .i64 i))]) (fun (i, v) => [.row v 46 2 (((BI a ++ (if 0 < (scL a).length ∧ iAt (scL a) (((scL a).length : Int) - 1) = 1 then [(((nR a : Int) + 1) - 1, 2)] else []) ++ (if 0 < (scL b).length then [(((nR a : Int) + 1), 2)] else [])) ++ ((BI b).map (sh2 ((nR a : Int) + 1))).take i).map e2)]) (fun (i, v) => (i ≤ (BI b).length)) (fun (i, v) => (BI b).length - i) (0, vk) ⟨by skip; repeat (first | exact Agree.nil | refine Agree.cons rfl ?_), by skip; repeat (first | exact List.nil_sublist _ | exact List.Sublist.refl _ | apply List.Sublist.cons_cons | apply List.Sublist.cons)⟩ ?_ ?_
              · skip
                exact Nat.zero_le _
              rintro ⟨i, v⟩
              intro h1
              show TC _ _ _ (Env.of [(11, .v (.int .i64 ((nR a : Int) + 1))), (15, .v (.int .i64 0)), (16, .sl 2 ((BI b).map e2)), (17, .v (.int .i64 0)), (18, .sl 2 (((BI a ++ (if 0 < (scL a).length ∧ iAt (scL a) (((scL a).length : Int) - 1) = 1 then [(((nR a : Int) + 1) - 1, 2)] else []) ++ (if 0 < (scL b).length then [(((nR a : Int) + 1), 2)] else [])) ++ (BI b).map (sh2 ((nR a : Int) + 1))).map e2)), (19, .v (.int .i64 0)), (20, .v v), (21, .v (.int .i64 i))]) [.row v 46 2 (((BI a ++ (if 0 < (scL a).length ∧ iAt (scL a) (((scL a).length : Int) - 1) = 1 then [(((nR a : Int) + 1) - 1, 2)] else []) ++ (if 0 < (scL b).length then [(((nR a : Int) + 1), 2)] else [])) ++ ((BI b).map (sh2 ((nR a : Int) + 1))).take i).map e2)]
              (iterate 2 refine TC.seq ?_); refine TC.region ?_; (iterate 2 refine TL.run1 (pure_move rfl) rfl ?_); refine TL.run1 (pure_len Ty.sl39 rfl) rfl ?_; refine TL.run1 (pure_lss rfl rfl) rfl ?_; refine TL.nil' ?_; refine TC.condD rfl (fun hc194 => ?_) (fun hc194 => ?_)
              · try dsimp only at hc194
                refine TC.skip' ?_; refine TC.seq ?_; refine TC.block ?_
                have hil : i < (BI b).length := by omega
                have htr := BI_at hil
                have hrb := row2 (BI b) i hil
                have hwl : (((BI a ++ (if 0 < (scL a).length ∧ iAt (scL a) (((scL a).length : Int) - 1) = 1 then [(((nR a : Int) + 1) - 1, 2)] else []) ++ (if 0 < (scL b).length then [(((nR a : Int) + 1), 2)] else [])) ++ ((BI b).map (sh2 ((nR a : Int) + 1))).take i).map e2).length ≤ 1000 := by (rw [List.length_map, List.length_append, List.length_take, List.length_map]; omega)
                refine TC.drawTailN 15 Ty.follows (by kernel_rfl) (by kernel_rfl) ?_
                simp only [List.take_succ_cons, List.take_zero, List.drop_succ_cons, List.drop_zero]
                (iterate 3 refine TD.run1 (pure_move rfl) rfl ?_); refine TD.run1 (pure_indexAddr Ty.sl39 rfl rfl (by omega) hrb (List.cons_ne_nil _ _)) rfl ?_; refine TD.run1 (pure_fieldAddr Ty.f46_0 rfl (.zero _) (List.cons_ne_nil _ _)) rfl ?_; refine TD.run1 (pure_load1 Ty.one3 rfl) rfl ?_; refine TD.run1 (pure_move rfl) rfl ?_; refine TD.run1 (pure_add rfl rfl (mkI64 (by omega) (by omega))) rfl ?_; (iterate 2 refine TD.run1 (pure_move rfl) rfl ?_); refine TD.run1 (pure_indexAddr Ty.sl39 rfl rfl (by omega) hrb (List.cons_ne_nil _ _)) rfl ?_; refine TD.run1 (pure_fieldAddr Ty.f46_1 rfl (.succ (.zero _)) (List.cons_ne_nil _ _)) rfl ?_; refine TD.run1 (pure_load1 Ty.one3 rfl) rfl ?_; refine TD.run1 (pure_build Ty.pl46 Ty.zero46 (.cons rfl rfl (.one rfl) rfl (.here (.nil _)) (.cons rfl rfl (.one rfl) rfl (.skip (.here (.nil _))) (.nil _)))) rfl ?_; refine TD.run1 (pure_buildSlice (xs := [.tmp 210]) Ty.app39 (by decide) rfl rfl (.cons rfl (.agg _) rfl .nil)) rfl ?_; refine TD.nil ?_
                show TL _ _ _ _ _ _
                refine TL.append Ty.app39 rfl rfl (by intro _; repeat (first | exact UpdR.here _ | apply UpdR.there)) (by simp only [List.length_append, List.length_cons, List.length_nil]; omega) (by simp only [List.length_append, List.length_cons, List.length_nil]; omega) rfl (fun v212 hv212 => ?_); refine TL.run1 (pure_assign rfl) rfl ?_; refine TL.nil ?_; refine block_normal ?_; refine then_normal ?_; refine TC.region ?_; refine TL.run1 (pure_move rfl) rfl ?_; refine TL.run1 (pure_add rfl rfl (mkI64 (by omega) (by omega))) rfl ?_; refine TL.run1 (pure_assign rfl) rfl ?_; refine TL.nil ?_
                have hst : ((BI a ++ (if 0 < (scL a).length ∧ iAt (scL a) (((scL a).length : Int) - 1) = 1 then [(((nR a : Int) + 1) - 1, 2)] else []) ++ (if 0 < (scL b).length then [(((nR a : Int) + 1), 2)] else [])) ++ ((BI b).map (sh2 ((nR a : Int) + 1))).take (i + 1)).map e2 = ((BI a ++ (if 0 < (scL a).length ∧ iAt (scL a) (((scL a).length : Int) - 1) = 1 then [(((nR a : Int) + 1) - 1, 2)] else []) ++ (if 0 < (scL b).length then [(((nR a : Int) + 1), 2)] else [])) ++ ((BI b).map (sh2 ((nR a : Int) + 1))).take i).map e2 ++ [[.v (.int .i64 ((yA (BI b) i).1 + ((nR a : Int) + 1))), .v (.int .i64 (yA (BI b) i).2)]] := by (rw [yA_map _ _ _ hil, ← List.append_assoc, List.map_append]; rfl)
                refine loop_next (i + 1, v212) ⟨by ((try dsimp only); rw [show (((i + 1 : Nat)) : Int) = (i : Int) + 1 by omega]; repeat (first | exact Agree.nil | refine Agree.cons rfl ?_)), by (try dsimp only); rw [hst]; repeat (first | exact List.nil_sublist _ | exact List.Sublist.refl _ | apply List.Sublist.cons_cons | apply List.Sublist.cons)⟩ (show i + 1 ≤ _ by omega) (by (try dsimp only); omega)
              · try dsimp only at hc194
                refine TC.exit ?_; refine then_exit ?_; refine loop_exit ?_; refine block_here ?_; refine then_normal ?_; refine TC.seq ?_
                have hie : i = (BI b).length := by omega
                have hwm : ((BI a ++ (if 0 < (scL a).length ∧ iAt (scL a) (((scL a).length : Int) - 1) = 1 then [(((nR a : Int) + 1) - 1, 2)] else []) ++ (if 0 < (scL b).length then [(((nR a : Int) + 1), 2)] else [])) ++ ((BI b).map (sh2 ((nR a : Int) + 1))).take i) = ((BI a ++ (if 0 < (scL a).length ∧ iAt (scL a) (((scL a).length : Int) - 1) = 1 then [(((nR a : Int) + 1) - 1, 2)] else []) ++ (if 0 < (scL b).length then [(((nR a : Int) + 1), 2)] else [])) ++ (BI b).map (sh2 ((nR a : Int) + 1))) := by (rw [List.take_of_length_le (by rw [List.length_map]; omega)])
                rw [hwm]
                refine TC.frz 20 [] (List.nil_sublist _) rfl (.rowS (xs := ((BI a ++ (if 0 < (scL a).length ∧ iAt (scL a) (((scL a).length : Int) - 1) = 1 then [(((nR a : Int) + 1) - 1, 2)] else []) ++ (if 0 < (scL b).length then [(((nR a : Int) + 1), 2)] else [])) ++ (BI b).map (sh2 ((nR a : Int) + 1))).map e2) (gone_nil (by repeat (first | exact List.Mem.head _ | apply List.Mem.tail))) (by decide) (e2_each _)) ?_
                have hwwl : (((BI a ++ (if 0 < (scL a).length ∧ iAt (scL a) (((scL a).length : Int) - 1) = 1 then [(((nR a : Int) + 1) - 1, 2)] else []) ++ (if 0 < (scL b).length then [(((nR a : Int) + 1), 2)] else [])) ++ (BI b).map (sh2 ((nR a : Int) + 1))).map e2).length = ((BI a ++ (if 0 < (scL a).length ∧ iAt (scL a) (((scL a).length : Int) - 1) = 1 then [(((nR a : Int) + 1) - 1, 2)] else []) ++ (if 0 < (scL b).length then [(((nR a : Int) + 1), 2)] else [])) ++ (BI b).map (sh2 ((nR a : Int) + 1))).length := List.length_map _
                have hww2 : ((BI a ++ (if 0 < (scL a).length ∧ iAt (scL a) (((scL a).length : Int) - 1) = 1 then [(((nR a : Int) + 1) - 1, 2)] else []) ++ (if 0 < (scL b).length then [(((nR a : Int) + 1), 2)] else [])) ++ (BI b).map (sh2 ((nR a : Int) + 1))).length ≤ 1000 := by (rw [List.length_append, List.length_map]; omega)
                refine TC.regionCut [213, 214, 215, 216, 217, 218, 219, 220, 221, 222, 223, 224, 225, 226, 227, 228, 229] 229 (False) ?_ ?_
                · skip
                  refine TL.run1 (pure_move rfl) rfl ?_; refine TL.run1 (pure_neq rfl rfl) rfl ?_; refine TL.run1 (pure_move rfl) rfl ?_; refine TL.splitP 215 rfl (fun hg215 => ?_) (fun hg215 => ?_)
                  · try dsimp only at hg215
                    (iterate 2 refine TL.passG rfl rfl rfl rfl ?_); refine TL.run1 (pure_pick_true rfl rfl) rfl ?_; refine TL.run1 (pure_move rfl) rfl ?_; (iterate 2 refine TL.passG rfl rfl rfl rfl ?_); refine TL.run1 (pure_pick_true rfl rfl) rfl ?_; refine TL.run1 (pure_move rfl) rfl ?_; (iterate 5 refine TL.passG rfl rfl rfl rfl ?_); refine TL.run1 (pure_pick_true rfl rfl) rfl ?_; refine TL.cutEnd (by repeat (first | exact Same.refl _ _ | refine Same.put rfl ?_)) rfl ?_
                    first | (simp; done) | (simp_all; done) | (simp_all; omega)
                  · try dsimp only at hg215
                    refine TL.runG rfl rfl (pure_move rfl) rfl ?_; refine TL.runG rfl rfl (pure_neq rfl rfl) rfl ?_; refine TL.run1 (pure_pick_false rfl rfl) rfl ?_; refine TL.run1 (pure_move rfl) rfl ?_; refine TL.splitP 219 rfl (fun hg219 => ?_) (fun hg219 => ?_)
                    · try dsimp only at hg219
                      (iterate 2 refine TL.passG rfl rfl rfl rfl ?_); refine TL.run1 (pure_pick_true rfl rfl) rfl ?_; refine TL.run1 (pure_move rfl) rfl ?_; (iterate 5 refine TL.passG rfl rfl rfl rfl ?_); refine TL.run1 (pure_pick_true rfl rfl) rfl ?_; refine TL.cutEnd (by repeat (first | exact Same.refl _ _ | refine Same.put rfl ?_)) rfl ?_
                      first | (simp; done) | (simp_all; done) | (simp_all; omega)
                    · try dsimp only at hg219
                      refine TL.runG rfl rfl (pure_move rfl) rfl ?_; refine TL.runG rfl rfl (pure_neq rfl rfl) rfl ?_; refine TL.run1 (pure_pick_false rfl rfl) rfl ?_; refine TL.run1 (pure_move rfl) rfl ?_; refine TL.splitP 223 rfl (fun hg223 => ?_) (fun hg223 => ?_)
                      · try dsimp only at hg223
                        (iterate 5 refine TL.passG rfl rfl rfl rfl ?_); refine TL.run1 (pure_pick_true rfl rfl) rfl ?_; refine TL.cutEnd (by repeat (first | exact Same.refl _ _ | refine Same.put rfl ?_)) rfl ?_
                        first | (simp; done) | (simp_all; done) | (simp_all; omega)
                      · try dsimp only at hg223
                        refine TL.runG rfl rfl (pure_move rfl) rfl ?_; refine TL.runG rfl rfl (pure_len Ty.sl39 rfl) rfl ?_; refine TL.runG rfl rfl (pure_move rfl) rfl ?_; refine TL.runG rfl rfl (pure_len Ty.sl39 rfl) rfl ?_; refine TL.runG rfl rfl (pure_neq rfl rfl) rfl ?_; refine TL.run1 (pure_pick_false rfl rfl) rfl ?_; refine TL.cutEnd (by repeat (first | exact Same.refl _ _ | refine Same.put rfl ?_)) rfl ?_
                        first | (simp; done) | (simp_all; done) | (simp_all; omega)
                refine TC.condD rfl (fun hc229 => ?_) (fun hc229 => ?_)
                · try dsimp only at hc229
                  all_goals exact hc229.elim
                · try dsimp only at hc229
                  refine TC.skip' ?_; (iterate 2 refine TC.seq ?_); refine TC.region ?_; refine TL.run1 (pure_assign rfl) rfl ?_; refine TL.nil' ?_; refine TC.block ?_; refine TC.loopX (X := Nat) (fun k => [(18, .sl 2 (((BI a ++ (if 0 < (scL a).length ∧ iAt (scL a) (((scL a).length : Int) - 1) = 1 then [(((nR a : Int) + 1) - 1, 2)] else []) ++ (if 0 < (scL b).length then [(((nR a : Int) + 1), 2)] else [])) ++ (BI b).map (sh2 ((nR a : Int) + 1))).map e2)), (20, .sl 2 (((BI a ++ (if 0 < (scL a).length ∧ iAt (scL a) (((scL a).length : Int) - 1) = 1 then [(((nR a : Int) + 1) - 1, 2)] else []) ++ (if 0 < (scL b).length then [(((nR a : Int) + 1), 2)] else [])) ++ (BI b).map (sh2 ((nR a : Int) + 1))).map e2)), (22, .v (.int .i64 k))]) (fun k => []) (fun k => (k ≤ ((BI a ++ (if 0 < (scL a).length ∧ iAt (scL a) (((scL a).length : Int) - 1) = 1 then [(((nR a : Int) + 1) - 1, 2)] else []) ++ (if 0 < (scL b).length then [(((nR a : Int) + 1), 2)] else [])) ++ (BI b).map (sh2 ((nR a : Int) + 1))).length)) (fun k => ((BI a ++ (if 0 < (scL a).length ∧ iAt (scL a) (((scL a).length : Int) - 1) = 1 then [(((nR a : Int) + 1) - 1, 2)] else []) ++ (if 0 < (scL b).length then [(((nR a : Int) + 1), 2)] else [])) ++ (BI b).map (sh2 ((nR a : Int) + 1))).length - k) (0) ⟨by skip; repeat (first | exact Agree.nil | refine Agree.cons rfl ?_), by skip; repeat (first | exact List.nil_sublist _ | exact List.Sublist.refl _ | apply List.Sublist.cons_cons | apply List.Sublist.cons)⟩ ?_ ?_
                  · skip
                    exact Nat.zero_le _
                  intro k
                  intro h2
                  show TC _ _ _ (Env.of [(18, .sl 2 (((BI a ++ (if 0 < (scL a).length ∧ iAt (scL a) (((scL a).length : Int) - 1) = 1 then [(((nR a : Int) + 1) - 1, 2)] else []) ++ (if 0 < (scL b).length then [(((nR a : Int) + 1), 2)] else [])) ++ (BI b).map (sh2 ((nR a : Int) + 1))).map e2)), (20, .sl 2 (((BI a ++ (if 0 < (scL a).length ∧ iAt (scL a) (((scL a).length : Int) - 1) = 1 then [(((nR a : Int) + 1) - 1, 2)] else []) ++ (if 0 < (scL b).length then [(((nR a : Int) + 1), 2)] else [])) ++ (BI b).map (sh2 ((nR a : Int) + 1))).map e2)), (22, .v (.int .i64 k))]) []
                  (iterate 2 refine TC.seq ?_); refine TC.region ?_; (iterate 2 refine TL.run1 (pure_move rfl) rfl ?_); refine TL.run1 (pure_len Ty.sl39 rfl) rfl ?_; refine TL.run1 (pure_lss rfl rfl) rfl ?_; refine TL.nil' ?_; refine TC.condD rfl (fun hc233 => ?_) (fun hc233 => ?_)
                  · try dsimp only at hc233
                    refine TC.skip' ?_; refine TC.seq ?_; refine TC.block ?_
                    have hkl : k < ((BI a ++ (if 0 < (scL a).length ∧ iAt (scL a) (((scL a).length : Int) - 1) = 1 then [(((nR a : Int) + 1) - 1, 2)] else []) ++ (if 0 < (scL b).length then [(((nR a : Int) + 1), 2)] else [])) ++ (BI b).map (sh2 ((nR a : Int) + 1))).length := by omega
                    have hrw := row2 ((BI a ++ (if 0 < (scL a).length ∧ iAt (scL a) (((scL a).length : Int) - 1) = 1 then [(((nR a : Int) + 1) - 1, 2)] else []) ++ (if 0 < (scL b).length then [(((nR a : Int) + 1), 2)] else [])) ++ (BI b).map (sh2 ((nR a : Int) + 1))) k hkl
                    refine TC.drawCut [236, 237, 238, 239, 240, 241, 242, 243, 244] 244 (False) Ty.follows (by kernel_rfl) ?_ ?_
                    · skip
                      (iterate 2 refine TD.run1 (pure_move rfl) rfl ?_); refine TD.run1 (pure_indexAddr Ty.sl39 rfl rfl (by omega) hrw (List.cons_ne_nil _ _)) rfl ?_; refine TD.run1 (pure_load Ty.agg46 rfl (.succ (.succ (.zero _)))) rfl ?_; (iterate 2 refine TD.run1 (pure_move rfl) rfl ?_); refine TD.run1 (pure_indexAddr Ty.sl39 rfl rfl (by omega) hrw (List.cons_ne_nil _ _)) rfl ?_; refine TD.run1 (pure_load Ty.agg46 rfl (.succ (.succ (.zero _)))) rfl ?_; refine TD.run1 (pure_neq_agg Ty.eq46 rfl rfl (.cons (.cons .nil)) (.cons (.cons .nil)) rfl rfl) rfl ?_; refine TD.cutEnd (by repeat (first | exact Same.refl _ _ | refine Same.put rfl ?_)) rfl ?_
                      simp
                    refine TC.condD rfl (fun hc244 => ?_) (fun hc244 => ?_)
                    · try dsimp only at hc244
                      all_goals exact hc244.elim
                    · try dsimp only at hc244
                      refine TC.skip ?_; refine block_normal ?_; refine then_normal ?_; refine TC.region ?_; refine TL.run1 (pure_move rfl) rfl ?_; refine TL.run1 (pure_add rfl rfl (mkI64 (by omega) (by omega))) rfl ?_; refine TL.run1 (pure_assign rfl) rfl ?_; refine TL.nil ?_; refine loop_next (k + 1) ⟨by ((try dsimp only); rw [show (((k + 1 : Nat)) : Int) = (k : Int) + 1 by omega]; repeat (first | exact Agree.nil | refine Agree.cons rfl ?_)), by repeat (first | exact List.nil_sublist _ | exact List.Sublist.refl _ | apply List.Sublist.cons_cons | apply List.Sublist.cons)⟩ (show k + 1 ≤ _ by omega) (by omega)
                  · try dsimp only at hc233
                    refine TC.exit ?_; refine then_exit ?_; refine loop_exit ?_; refine block_here ?_; refine then_normal ?_; refine TC.seq ?_; refine TC.region ?_; refine TL.run1 (pure_assign rfl) rfl ?_; refine TL.nil' ?_; refine TC.ret ?_
                    exact ret_bool rfl (by simp)
            · try dsimp only at hc185
              refine TC.skip' ?_; (iterate 2 refine TC.seq ?_)
              obtain ⟨vk, hvk⟩ : ∃ v : Value, v = v167 := ⟨_, rfl⟩
              rw [← hvk]
              have hq3 : ¬ 0 < (scL b).length := fun h => hc185 (by have := hsb.2 h; omega)
              have hw0 : ([] ++ (BI a).map e2) = ((BI a ++ (if 0 < (scL a).length ∧ iAt (scL a) (((scL a).length : Int) - 1) = 1 then [(((nR a : Int) + 1) - 1, 2)] else []) ++ (if 0 < (scL b).length then [(((nR a : Int) + 1), 2)] else [])) ++ ((BI b).map (sh2 ((nR a : Int) + 1))).take 0).map e2 := by (rw [if_neg hc176, if_neg hq3, List.take_zero]; simp [e2])
              rw [hw0]
              have hw0l : (BI a ++ (if 0 < (scL a).length ∧ iAt (scL a) (((scL a).length : Int) - 1) = 1 then [(((nR a : Int) + 1) - 1, 2)] else []) ++ (if 0 < (scL b).length then [(((nR a : Int) + 1), 2)] else [])).length ≤ 300 := by (simp only [List.length_append]; have h1 : (if 0 < (scL a).length ∧ iAt (scL a) (((scL a).length : Int) - 1) = 1 then [(((nR a : Int) + 1) - 1, (2 : Int))] else []).length ≤ 1 := (by split <;> simp); have h2 : (if 0 < (scL b).length then [(((nR a : Int) + 1), (2 : Int))] else []).length ≤ 1 := (by split <;> simp); omega)
              refine TC.region ?_; refine TL.run1 (pure_assign rfl) rfl ?_; refine TL.nil' ?_; refine TC.block ?_; refine TC.loopX (X := Nat × Value) (fun (i, v) => [(11, .v (.int .i64 ((nR a : Int) + 1))), (15, .v (.int .i64 0)), (16, .sl 2 ((BI b).map e2)), (17, .v (.int .i64 0)), (18, .sl 2 (((BI a ++ (if 0 < (scL a).length ∧ iAt (scL a) (((scL a).length : Int) - 1) = 1 then [(((nR a : Int) + 1) - 1, 2)] else []) ++ (if 0 < (scL b).length then [(((nR a : Int) + 1), 2)] else [])) ++ (BI b).map (sh2 ((nR a : Int) + 1))).map e2)), (19, .v (.int .i64 0)), (20, .v v), (21, .v (.int .i64 i))]) (fun (i, v) => [.row v 46 2 (((BI a ++ (if 0 < (scL a).length ∧ iAt (scL a) (((scL a).length : Int) - 1) = 1 then [(((nR a : Int) + 1) - 1, 2)] else []) ++ (if 0 < (scL b).length then [(((nR a : Int) + 1), 2)] else [])) ++ ((BI b).map (sh2 ((nR a : Int) + 1))).take i).map e2)]) (fun (i, v) => (i ≤ (BI b).length)) (fun (i, v) => (BI b).length - i) (0, vk) ⟨by skip; repeat (first | exact Agree.nil | refine Agree.cons rfl ?_), by skip; repeat (first | exact List.nil_sublist _ | exact List.Sublist.refl _ | apply List.Sublist.cons_cons | apply List.Sublist.cons)⟩ ?_ ?_
              · skip
                exact Nat.zero_le _
              rintro ⟨i, v⟩
              intro h1
              show TC _ _ _ (Env.of [(11, .v (.int .i64 ((nR a : Int) + 1))), (15, .v (.int .i64 0)), (16, .sl 2 ((BI b).map e2)), (17, .v (.int .i64 0)), (18, .sl 2 (((BI a ++ (if 0 < (scL a).length ∧ iAt (scL a) (((scL a).length : Int) - 1) = 1 then [(((nR a : Int) + 1) - 1, 2)] else []) ++ (if 0 < (scL b).length then [(((nR a : Int) + 1), 2)] else [])) ++ (BI b).map (sh2 ((nR a : Int) + 1))).map e2)), (19, .v (.int .i64 0)), (20, .v v), (21, .v (.int .i64 i))]) [.row v 46 2 (((BI a ++ (if 0 < (scL a).length ∧ iAt (scL a) (((scL a).length : Int) - 1) = 1 then [(((nR a : Int) + 1) - 1, 2)] else []) ++ (if 0 < (scL b).length then [(((nR a : Int) + 1), 2)] else [])) ++ ((BI b).map (sh2 ((nR a : Int) + 1))).take i).map e2)]
              (iterate 2 refine TC.seq ?_); refine TC.region ?_; (iterate 2 refine TL.run1 (pure_move rfl) rfl ?_); refine TL.run1 (pure_len Ty.sl39 rfl) rfl ?_; refine TL.run1 (pure_lss rfl rfl) rfl ?_; refine TL.nil' ?_; refine TC.condD rfl (fun hc194 => ?_) (fun hc194 => ?_)
              · try dsimp only at hc194
                refine TC.skip' ?_; refine TC.seq ?_; refine TC.block ?_
                have hil : i < (BI b).length := by omega
                have htr := BI_at hil
                have hrb := row2 (BI b) i hil
                have hwl : (((BI a ++ (if 0 < (scL a).length ∧ iAt (scL a) (((scL a).length : Int) - 1) = 1 then [(((nR a : Int) + 1) - 1, 2)] else []) ++ (if 0 < (scL b).length then [(((nR a : Int) + 1), 2)] else [])) ++ ((BI b).map (sh2 ((nR a : Int) + 1))).take i).map e2).length ≤ 1000 := by (rw [List.length_map, List.length_append, List.length_take, List.length_map]; omega)
                refine TC.drawTailN 15 Ty.follows (by kernel_rfl) (by kernel_rfl) ?_
                simp only [List.take_succ_cons, List.take_zero, List.drop_succ_cons, List.drop_zero]
                (iterate 3 refine TD.run1 (pure_move rfl) rfl ?_); refine TD.run1 (pure_indexAddr Ty.sl39 rfl rfl (by omega) hrb (List.cons_ne_nil _ _)) rfl ?_; refine TD.run1 (pure_fieldAddr Ty.f46_0 rfl (.zero _) (List.cons_ne_nil _ _)) rfl ?_; refine TD.run1 (pure_load1 Ty.one3 rfl) rfl ?_; refine TD.run1 (pure_move rfl) rfl ?_; refine TD.run1 (pure_add rfl rfl (mkI64 (by omega) (by omega))) rfl ?_; (iterate 2 refine TD.run1 (pure_move rfl) rfl ?_); refine TD.run1 (pure_indexAddr Ty.sl39 rfl rfl (by omega) hrb (List.cons_ne_nil _ _)) rfl ?_; refine TD.run1 (pure_fieldAddr Ty.f46_1 rfl (.succ (.zero _)) (List.cons_ne_nil _ _)) rfl ?_; refine TD.run1 (pure_load1 Ty.one3 rfl) rfl ?_; refine TD.run1 (pure_build Ty.pl46 Ty.zero46 (.cons rfl rfl (.one rfl) rfl (.here (.nil _)) (.cons rfl rfl (.one rfl) rfl (.skip (.here (.nil _))) (.nil _)))) rfl ?_; refine TD.run1 (pure_buildSlice (xs := [.tmp 210]) Ty.app39 (by decide) rfl rfl (.cons rfl (.agg _) rfl .nil)) rfl ?_; refine TD.nil ?_
                show TL _ _ _ _ _ _
                refine TL.append Ty.app39 rfl rfl (by intro _; repeat (first | exact UpdR.here _ | apply UpdR.there)) (by simp only [List.length_append, List.length_cons, List.length_nil]; omega) (by simp only [List.length_append, List.length_cons, List.length_nil]; omega) rfl (fun v212 hv212 => ?_); refine TL.run1 (pure_assign rfl) rfl ?_; refine TL.nil ?_; refine block_normal ?_; refine then_normal ?_; refine TC.region ?_; refine TL.run1 (pure_move rfl) rfl ?_; refine TL.run1 (pure_add rfl rfl (mkI64 (by omega) (by omega))) rfl ?_; refine TL.run1 (pure_assign rfl) rfl ?_; refine TL.nil ?_
                have hst : ((BI a ++ (if 0 < (scL a).length ∧ iAt (scL a) (((scL a).length : Int) - 1) = 1 then [(((nR a : Int) + 1) - 1, 2)] else []) ++ (if 0 < (scL b).length then [(((nR a : Int) + 1), 2)] else [])) ++ ((BI b).map (sh2 ((nR a : Int) + 1))).take (i + 1)).map e2 = ((BI a ++ (if 0 < (scL a).length ∧ iAt (scL a) (((scL a).length : Int) - 1) = 1 then [(((nR a : Int) + 1) - 1, 2)] else []) ++ (if 0 < (scL b).length then [(((nR a : Int) + 1), 2)] else [])) ++ ((BI b).map (sh2 ((nR a : Int) + 1))).take i).map e2 ++ [[.v (.int .i64 ((yA (BI b) i).1 + ((nR a : Int) + 1))), .v (.int .i64 (yA (BI b) i).2)]] := by (rw [yA_map _ _ _ hil, ← List.append_assoc, List.map_append]; rfl)
                refine loop_next (i + 1, v212) ⟨by ((try dsimp only); rw [show (((i + 1 : Nat)) : Int) = (i : Int) + 1 by omega]; repeat (first | exact Agree.nil | refine Agree.cons rfl ?_)), by (try dsimp only); rw [hst]; repeat (first | exact List.nil_sublist _ | exact List.Sublist.refl _ | apply List.Sublist.cons_cons | apply List.Sublist.cons)⟩ (show i + 1 ≤ _ by omega) (by (try dsimp only); omega)
              · try dsimp only at hc194
                refine TC.exit ?_; refine then_exit ?_; refine loop_exit ?_; refine block_here ?_; refine then_normal ?_; refine TC.seq ?_
                have hie : i = (BI b).length := by omega
                have hwm : ((BI a ++ (if 0 < (scL a).length ∧ iAt (scL a) (((scL a).length : Int) - 1) = 1 then [(((nR a : Int) + 1) - 1, 2)] else []) ++ (if 0 < (scL b).length then [(((nR a : Int) + 1), 2)] else [])) ++ ((BI b).map (sh2 ((nR a : Int) + 1))).take i) = ((BI a ++ (if 0 < (scL a).length ∧ iAt (scL a) (((scL a).length : Int) - 1) = 1 then [(((nR a : Int) + 1) - 1, 2)] else []) ++ (if 0 < (scL b).length then [(((nR a : Int) + 1), 2)] else [])) ++ (BI b).map (sh2 ((nR a : Int) + 1))) := by (rw [List.take_of_length_le (by rw [List.length_map]; omega)])
                rw [hwm]
                refine TC.frz 20 [] (List.nil_sublist _) rfl (.rowS (xs := ((BI a ++ (if 0 < (scL a).length ∧ iAt (scL a) (((scL a).length : Int) - 1) = 1 then [(((nR a : Int) + 1) - 1, 2)] else []) ++ (if 0 < (scL b).length then [(((nR a : Int) + 1), 2)] else [])) ++ (BI b).map (sh2 ((nR a : Int) + 1))).map e2) (gone_nil (by repeat (first | exact List.Mem.head _ | apply List.Mem.tail))) (by decide) (e2_each _)) ?_
                have hwwl : (((BI a ++ (if 0 < (scL a).length ∧ iAt (scL a) (((scL a).length : Int) - 1) = 1 then [(((nR a : Int) + 1) - 1, 2)] else []) ++ (if 0 < (scL b).length then [(((nR a : Int) + 1), 2)] else [])) ++ (BI b).map (sh2 ((nR a : Int) + 1))).map e2).length = ((BI a ++ (if 0 < (scL a).length ∧ iAt (scL a) (((scL a).length : Int) - 1) = 1 then [(((nR a : Int) + 1) - 1, 2)] else []) ++ (if 0 < (scL b).length then [(((nR a : Int) + 1), 2)] else [])) ++ (BI b).map (sh2 ((nR a : Int) + 1))).length := List.length_map _
                have hww2 : ((BI a ++ (if 0 < (scL a).length ∧ iAt (scL a) (((scL a).length : Int) - 1) = 1 then [(((nR a : Int) + 1) - 1, 2)] else []) ++ (if 0 < (scL b).length then [(((nR a : Int) + 1), 2)] else [])) ++ (BI b).map (sh2 ((nR a : Int) + 1))).length ≤ 1000 := by (rw [List.length_append, List.length_map]; omega)
                refine TC.regionCut [213, 214, 215, 216, 217, 218, 219, 220, 221, 222, 223, 224, 225, 226, 227, 228, 229] 229 (False) ?_ ?_
                · skip
                  refine TL.run1 (pure_move rfl) rfl ?_; refine TL.run1 (pure_neq rfl rfl) rfl ?_; refine TL.run1 (pure_move rfl) rfl ?_; refine TL.splitP 215 rfl (fun hg215 => ?_) (fun hg215 => ?_)
                  · try dsimp only at hg215
                    (iterate 2 refine TL.passG rfl rfl rfl rfl ?_); refine TL.run1 (pure_pick_true rfl rfl) rfl ?_; refine TL.run1 (pure_move rfl) rfl ?_; (iterate 2 refine TL.passG rfl rfl rfl rfl ?_); refine TL.run1 (pure_pick_true rfl rfl) rfl ?_; refine TL.run1 (pure_move rfl) rfl ?_; (iterate 5 refine TL.passG rfl rfl rfl rfl ?_); refine TL.run1 (pure_pick_true rfl rfl) rfl ?_; refine TL.cutEnd (by repeat (first | exact Same.refl _ _ | refine Same.put rfl ?_)) rfl ?_
                    first | (simp; done) | (simp_all; done) | (simp_all; omega)
                  · try dsimp only at hg215
                    refine TL.runG rfl rfl (pure_move rfl) rfl ?_; refine TL.runG rfl rfl (pure_neq rfl rfl) rfl ?_; refine TL.run1 (pure_pick_false rfl rfl) rfl ?_; refine TL.run1 (pure_move rfl) rfl ?_; refine TL.splitP 219 rfl (fun hg219 => ?_) (fun hg219 => ?_)
                    · try dsimp only at hg219
                      (iterate 2 refine TL.passG rfl rfl rfl rfl ?_); refine TL.run1 (pure_pick_true rfl rfl) rfl ?_; refine TL.run1 (pure_move rfl) rfl ?_; (iterate 5 refine TL.passG rfl rfl rfl rfl ?_); refine TL.run1 (pure_pick_true rfl rfl) rfl ?_; refine TL.cutEnd (by repeat (first | exact Same.refl _ _ | refine Same.put rfl ?_)) rfl ?_
                      first | (simp; done) | (simp_all; done) | (simp_all; omega)
                    · try dsimp only at hg219
                      refine TL.runG rfl rfl (pure_move rfl) rfl ?_; refine TL.runG rfl rfl (pure_neq rfl rfl) rfl ?_; refine TL.run1 (pure_pick_false rfl rfl) rfl ?_; refine TL.run1 (pure_move rfl) rfl ?_; refine TL.splitP 223 rfl (fun hg223 => ?_) (fun hg223 => ?_)
                      · try dsimp only at hg223
                        (iterate 5 refine TL.passG rfl rfl rfl rfl ?_); refine TL.run1 (pure_pick_true rfl rfl) rfl ?_; refine TL.cutEnd (by repeat (first | exact Same.refl _ _ | refine Same.put rfl ?_)) rfl ?_
                        first | (simp; done) | (simp_all; done) | (simp_all; omega)
                      · try dsimp only at hg223
                        refine TL.runG rfl rfl (pure_move rfl) rfl ?_; refine TL.runG rfl rfl (pure_len Ty.sl39 rfl) rfl ?_; refine TL.runG rfl rfl (pure_move rfl) rfl ?_; refine TL.runG rfl rfl (pure_len Ty.sl39 rfl) rfl ?_; refine TL.runG rfl rfl (pure_neq rfl rfl) rfl ?_; refine TL.run1 (pure_pick_false rfl rfl) rfl ?_; refine TL.cutEnd (by repeat (first | exact Same.refl _ _ | refine Same.put rfl ?_)) rfl ?_
                        first | (simp; done) | (simp_all; done) | (simp_all; omega)
                refine TC.condD rfl (fun hc229 => ?_) (fun hc229 => ?_)
                · try dsimp only at hc229
                  all_goals exact hc229.elim
                · try dsimp only at hc229
                  refine TC.skip' ?_; (iterate 2 refine TC.seq ?_); refine TC.region ?_; refine TL.run1 (pure_assign rfl) rfl ?_; refine TL.nil' ?_; refine TC.block ?_; refine TC.loopX (X := Nat) (fun k => [(18, .sl 2 (((BI a ++ (if 0 < (scL a).length ∧ iAt (scL a) (((scL a).length : Int) - 1) = 1 then [(((nR a : Int) + 1) - 1, 2)] else []) ++ (if 0 < (scL b).length then [(((nR a : Int) + 1), 2)] else [])) ++ (BI b).map (sh2 ((nR a : Int) + 1))).map e2)), (20, .sl 2 (((BI a ++ (if 0 < (scL a).length ∧ iAt (scL a) (((scL a).length : Int) - 1) = 1 then [(((nR a : Int) + 1) - 1, 2)] else []) ++ (if 0 < (scL b).length then [(((nR a : Int) + 1), 2)] else [])) ++ (BI b).map (sh2 ((nR a : Int) + 1))).map e2)), (22, .v (.int .i64 k))]) (fun k => []) (fun k => (k ≤ ((BI a ++ (if 0 < (scL a).length ∧ iAt (scL a) (((scL a).length : Int) - 1) = 1 then [(((nR a : Int) + 1) - 1, 2)] else []) ++ (if 0 < (scL b).length then [(((nR a : Int) + 1), 2)] else [])) ++ (BI b).map (sh2 ((nR a : Int) + 1))).length)) (fun k => ((BI a ++ (if 0 < (scL a).length ∧ iAt (scL a) (((scL a).length : Int) - 1) = 1 then [(((nR a : Int) + 1) - 1, 2)] else []) ++ (if 0 < (scL b).length then [(((nR a : Int) + 1), 2)] else [])) ++ (BI b).map (sh2 ((nR a : Int) + 1))).length - k) (0) ⟨by skip; repeat (first | exact Agree.nil | refine Agree.cons rfl ?_), by skip; repeat (first | exact List.nil_sublist _ | exact List.Sublist.refl _ | apply List.Sublist.cons_cons | apply List.Sublist.cons)⟩ ?_ ?_
                  · skip
                    exact Nat.zero_le _
                  intro k
                  intro h2
                  show TC _ _ _ (Env.of [(18, .sl 2 (((BI a ++ (if 0 < (scL a).length ∧ iAt (scL a) (((scL a).length : Int) - 1) = 1 then [(((nR a : Int) + 1) - 1, 2)] else []) ++ (if 0 < (scL b).length then [(((nR a : Int) + 1), 2)] else [])) ++ (BI b).map (sh2 ((nR a : Int) + 1))).map e2)), (20, .sl 2 (((BI a ++ (if 0 < (scL a).length ∧ iAt (scL a) (((scL a).length : Int) - 1) = 1 then [(((nR a : Int) + 1) - 1, 2)] else []) ++ (if 0 < (scL b).length then [(((nR a : Int) + 1), 2)] else [])) ++ (BI b).map (sh2 ((nR a : Int) + 1))).map e2)), (22, .v (.int .i64 k))]) []
                  (iterate 2 refine TC.seq ?_); refine TC.region ?_; (iterate 2 refine TL.run1 (pure_move rfl) rfl ?_); refine TL.run1 (pure_len Ty.sl39 rfl) rfl ?_; refine TL.run1 (pure_lss rfl rfl) rfl ?_; refine TL.nil' ?_; refine TC.condD rfl (fun hc233 => ?_) (fun hc233 => ?_)
                  · try dsimp only at hc233
                    refine TC.skip' ?_; refine TC.seq ?_; refine TC.block ?_
                    have hkl : k < ((BI a ++ (if 0 < (scL a).length ∧ iAt (scL a) (((scL a).length : Int) - 1) = 1 then [(((nR a : Int) + 1) - 1, 2)] else []) ++ (if 0 < (scL b).length then [(((nR a : Int) + 1), 2)] else [])) ++ (BI b).map (sh2 ((nR a : Int) + 1))).length := by omega
                    have hrw := row2 ((BI a ++ (if 0 < (scL a).length ∧ iAt (scL a) (((scL a).length : Int) - 1) = 1 then [(((nR a : Int) + 1) - 1, 2)] else []) ++ (if 0 < (scL b).length then [(((nR a : Int) + 1), 2)] else [])) ++ (BI b).map (sh2 ((nR a : Int) + 1))) k hkl
                    refine TC.drawCut [236, 237, 238, 239, 240, 241, 242, 243, 244] 244 (False) Ty.follows (by kernel_rfl) ?_ ?_
                    · skip
                      (iterate 2 refine TD.run1 (pure_move rfl) rfl ?_); refine TD.run1 (pure_indexAddr Ty.sl39 rfl rfl (by omega) hrw (List.cons_ne_nil _ _)) rfl ?_; refine TD.run1 (pure_load Ty.agg46 rfl (.succ (.succ (.zero _)))) rfl ?_; (iterate 2 refine TD.run1 (pure_move rfl) rfl ?_); refine TD.run1 (pure_indexAddr Ty.sl39 rfl rfl (by omega) hrw (List.cons_ne_nil _ _)) rfl ?_; refine TD.run1 (pure_load Ty.agg46 rfl (.succ (.succ (.zero _)))) rfl ?_; refine TD.run1 (pure_neq_agg Ty.eq46 rfl rfl (.cons (.cons .nil)) (.cons (.cons .nil)) rfl rfl) rfl ?_; refine TD.cutEnd (by repeat (first | exact Same.refl _ _ | refine Same.put rfl ?_)) rfl ?_
                      simp
                    refine TC.condD rfl (fun hc244 => ?_) (fun hc244 => ?_)
                    · try dsimp only at hc244
                      all_goals exact hc244.elim
                    · try dsimp only at hc244
                      refine TC.skip ?_; refine block_normal ?_; refine then_normal ?_; refine TC.region ?_; refine TL.run1 (pure_move rfl) rfl ?_; refine TL.run1 (pure_add rfl rfl (mkI64 (by omega) (by omega))) rfl ?_; refine TL.run1 (pure_assign rfl) rfl ?_; refine TL.nil ?_; refine loop_next (k + 1) ⟨by ((try dsimp only); rw [show (((k + 1 : Nat)) : Int) = (k : Int) + 1 by omega]; repeat (first | exact Agree.nil | refine Agree.cons rfl ?_)), by repeat (first | exact List.nil_sublist _ | exact List.Sublist.refl _ | apply List.Sublist.cons_cons | apply List.Sublist.cons)⟩ (show k + 1 ≤ _ by omega) (by omega)
                  · try dsimp only at hc233
                    refine TC.exit ?_; refine then_exit ?_; refine loop_exit ?_; refine block_here ?_; refine then_normal ?_; refine TC.seq ?_; refine TC.region ?_; refine TL.run1 (pure_assign rfl) rfl ?_; refine TL.nil' ?_; refine TC.ret ?_
                    exact ret_bool rfl (by simp)
end Go.Ob
