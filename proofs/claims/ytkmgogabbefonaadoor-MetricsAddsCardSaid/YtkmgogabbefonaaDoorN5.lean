import Derived.Test.YtkmgogabbefonaaDoorE10
set_option linter.unusedVariables false
set_option linter.unusedSimpArgs false
namespace Go.Ob
open Go.Proofs
/-! ### strings that are joined -/
theorem byt_app1 (s t : ByteArray) (i : Nat) (h : i < s.size) : byt (s ++ t) i = byt s i := by
  have h' : i < s.data.toList.length := by rw [← Lib.size_eq]; exact h
  unfold byt
  rw [show (s ++ t).data.toList = s.data.toList ++ t.data.toList by simp]
  simp only [List.getD_eq_getElem?_getD]
  rw [List.getElem?_append_left h']
theorem byt_app2 (s t : ByteArray) (i : Nat) : byt (s ++ t) (s.size + i) = byt t i := by
  unfold byt
  rw [show (s ++ t).data.toList = s.data.toList ++ t.data.toList by simp, Lib.size_eq s]
  simp only [List.getD_eq_getElem?_getD]
  rw [List.getElem?_append_right (by omega)]
  congr 3; omega
theorem dc_app1 (s t : ByteArray) (p : Nat) (h : p < s.size) (hb : ¬ BadAt s p) : Utf8.decode (s ++ t) p = Utf8.decode s p := by
  have hw := dc_in s p h
  unfold BadAt at hb
  rw [dc_N] at hw hb
  rw [dc_N (s ++ t), dc_N s, size_app, byt_app1 s t p h]
  exact decodeN_cut (by omega) hb (fun h1 => byt_app1 s t _ (by omega)) (fun h1 => byt_app1 s t _ (by omega)) (fun h1 => byt_app1 s t _ (by omega))
theorem dc_app2 (s t : ByteArray) (p : Nat) : Utf8.decode (s ++ t) (s.size + p) = Utf8.decode t p := by
  rw [dc_N (s ++ t), dc_N t, size_app, byt_app2, Nat.add_assoc, Nat.add_assoc, Nat.add_assoc, byt_app2, byt_app2, byt_app2, show s.size + t.size - (s.size + p) = t.size - p by omega]
theorem rpos_app1 {s : ByteArray} (t : ByteArray) (hok : okS s = true) : ∀ k, k ≤ nR s → rpos (s ++ t) k = rpos s k
  | 0, _ => rfl
  | k + 1, h => by
    have ih := rpos_app1 t hok k (by omega)
    rw [rpos, rpos, ih, dc_app1 s t _ (nR_lt.1 (by omega)) (okS_at hok (by omega))]
theorem rpos_app2 {s : ByteArray} (t : ByteArray) (hok : okS s = true) : ∀ k, rpos (s ++ t) (nR s + k) = s.size + rpos t k
  | 0 => by rw [Nat.add_zero, rpos_app1 t hok _ (Nat.le_refl _), nR_end]; rfl
  | k + 1 => by
    rw [← Nat.add_assoc, rpos, rpos_app2 t hok k, dc_app2, rpos, Nat.add_assoc]
/-- a valid string of these code points -/
structure Run (s : ByteArray) (l : List Int) : Prop where
  ok : okS s = true
  pts : pts s = l
theorem Run.len {s : ByteArray} {l : List Int} (h : Run s l) : nR s = l.length := by rw [← h.pts, pts_len]
theorem Run.cls {s : ByteArray} {l : List Int} (h : Run s l) : cls s = l.map classP := by unfold Go.Ob.cls; rw [h.pts]
theorem Run.nil : Run ⟨#[]⟩ [] := ⟨by decide, by decide⟩
theorem Run.append {s t : ByteArray} {l m : List Int} (hs : Run s l) (ht : Run t m) : Run (s ++ t) (l ++ m) := by
  have hn : nR (s ++ t) = nR s + nR t := (nR_eq (by rw [rpos_app2 t hs.ok, nR_end, size_app])).symm
  have h1 : ∀ k, k < nR s → Utf8.decode (s ++ t) (rpos (s ++ t) k) = Utf8.decode s (rpos s k) := fun k hk => by
    rw [rpos_app1 t hs.ok k (by omega), dc_app1 s t _ (nR_lt.1 hk) (okS_at hs.ok hk)]
  have h2 : ∀ k, Utf8.decode (s ++ t) (rpos (s ++ t) (nR s + k)) = Utf8.decode t (rpos t k) := fun k => by
    rw [rpos_app2 t hs.ok, dc_app2]
  refine ⟨decide_eq_true fun k hk => ?_, ?_⟩
  · rw [hn] at hk
    unfold BadAt
    rcases Nat.lt_or_ge k (nR s) with h | h
    · rw [h1 k h]; exact okS_at hs.ok h
    · obtain ⟨j, rfl⟩ : ∃ j, k = nR s + j := ⟨k - nR s, by omega⟩
      rw [h2 j]; exact okS_at ht.ok (by omega)
  · rw [← hs.pts, ← ht.pts]
    apply List.ext_getElem?
    intro k
    rcases Nat.lt_or_ge k (nR s) with h | h
    · rw [List.getElem?_append_left (by rw [pts_len]; exact h)]
      simp only [Go.Ob.pts, ptsTo, List.getElem?_map, List.getElem?_range (show k < nR (s ++ t) by omega), List.getElem?_range h, Option.map_some, ptN, h1 k h]
    · rw [List.getElem?_append_right (by rw [pts_len]; exact h), pts_len]
      obtain ⟨j, rfl⟩ : ∃ j, k = nR s + j := ⟨k - nR s, by omega⟩
      rw [Nat.add_sub_cancel_left]
      rcases Nat.lt_or_ge j (nR t) with hj | hj
      · simp only [Go.Ob.pts, ptsTo, List.getElem?_map, List.getElem?_range (show nR s + j < nR (s ++ t) by omega), List.getElem?_range hj, Option.map_some, ptN, h2 j]
      · rw [List.getElem?_eq_none (by rw [pts_len]; omega), List.getElem?_eq_none (by rw [pts_len]; omega)]
theorem iAt_app1 (l m : List Int) (k : Nat) (h : k < l.length) : iAt (l ++ m) k = iAt l k := by
  unfold iAt; rw [Int.toNat_natCast]; simp [List.getD_eq_getElem?_getD, List.getElem?_append_left h]
theorem iAt_app2 (l m : List Int) (k : Nat) : iAt (l ++ m) ((l.length + k : Nat) : Int) = iAt m k := by
  unfold iAt; rw [Int.toNat_natCast, Int.toNat_natCast, List.getD_eq_getElem?_getD, List.getD_eq_getElem?_getD, List.getElem?_append_right (by omega), Nat.add_sub_cancel_left]
theorem stL_app (c d : List Int) : ∀ k, k ≤ c.length → stL (c ++ d) k = stL c k
  | 0, _ => rfl
  | k + 1, h => by rw [stL, stL, stL_app c d k (by omega), iAt_app1 c d k (by omega)]
theorem bAt_app (c d : List Int) (k : Nat) (h : k < c.length) : bAt (c ++ d) k = bAt c k := by
  unfold bAt; rw [stL_app c d k (by omega), iAt_app1 c d k h]

/-! ### the clusters of two strings that are joined at a boundary -/
theorem Bk_app (c d : List Int) (k : Nat) (h : k < c.length) : Bk (c ++ d) k ↔ Bk c k := by unfold Bk; rw [bAt_app c d k h]
theorem lastB_app (c d : List Int) : ∀ k, k ≤ c.length → lastB (c ++ d) k = lastB c k
  | 0, _ => rfl
  | k + 1, h => by
    rw [lastB, lastB, lastB_app c d k (by omega)]
    by_cases hb : Bk c k
    · rw [if_pos hb, if_pos ((Bk_app c d k h).2 hb)]
    · rw [if_neg hb, if_neg (fun e => hb ((Bk_app c d k h).1 e))]
theorem cTo_app (c d : List Int) : ∀ k, k ≤ c.length → cTo (c ++ d) k = cTo c k
  | 0, _ => rfl
  | k + 1, h => by
    rw [cTo, cTo, cTo_app c d k (by omega), lastB_app c d k (by omega)]
    by_cases hb : Bk c k
    · rw [if_pos hb, if_pos ((Bk_app c d k h).2 hb)]
    · rw [if_neg hb, if_neg (fun e => hb ((Bk_app c d k h).1 e))]
def shP (n : Nat) (p : Nat × Nat) : Nat × Nat := (n + p.1, n + p.2)
theorem cTo_join {c d : List Int} (hb : Bk (c ++ d) c.length) : ∀ j, cTo (c ++ d) (c.length + (j + 1)) = cTo c c.length ++ [(lastB c c.length, c.length)] ++ (cTo d (j + 1)).map (shP c.length) ∧ lastB (c ++ d) (c.length + (j + 1)) = c.length + lastB d (j + 1)
  | 0 => by
    have h0 : ¬ Bk d 0 := fun h => absurd h.1 (by omega)
    rw [show c.length + (0 + 1) = c.length + 1 from rfl, cTo, lastB, if_pos hb, if_pos hb, cTo_app c d _ (Nat.le_refl _), lastB_app c d _ (Nat.le_refl _)]
    rw [cTo.eq_2 d 0, lastB.eq_2 d 0, if_neg h0, if_neg h0]
    exact ⟨by simp [cTo], rfl⟩
  | j + 1 => by
    obtain ⟨h1, h2⟩ := cTo_join hb j
    have hbd : bAt ((c ++ d).drop c.length) (j + 1) = bAt (c ++ d) (c.length + (j + 1)) := bAt_drop (.inr hb) (j + 1) (by omega)
    rw [List.drop_left] at hbd
    have hk : Bk (c ++ d) (c.length + (j + 1)) ↔ Bk d (j + 1) := by
      unfold Bk; rw [hbd]; exact ⟨fun h => ⟨by omega, h.2⟩, fun h => ⟨by omega, h.2⟩⟩
    rw [show c.length + (j + 1 + 1) = (c.length + (j + 1)) + 1 from rfl, cTo, lastB, cTo.eq_2 d (j + 1), lastB.eq_2 d (j + 1), h1, h2]
    by_cases hq : Bk d (j + 1)
    · rw [if_pos (hk.2 hq), if_pos (hk.2 hq), if_pos hq, if_pos hq]
      exact ⟨by simp [shP], rfl⟩
    · rw [if_neg (fun e => hq (hk.1 e)), if_neg (fun e => hq (hk.1 e)), if_neg hq, if_neg hq]
      exact ⟨rfl, rfl⟩
theorem cAll_join {c d : List Int} (hc : 0 < c.length) (hd : 0 < d.length) (hb : Bk (c ++ d) c.length) : cAll (c ++ d) = cAll c ++ (cAll d).map (shP c.length) := by
  obtain ⟨j, hj⟩ : ∃ j, d.length = j + 1 := ⟨d.length - 1, by omega⟩
  obtain ⟨h1, h2⟩ := cTo_join hb j
  unfold cAll
  rw [List.length_append, hj, h1, h2, if_pos (by omega), if_pos hc, if_pos (by omega)]
  simp [shP]
/-- the cluster in which the first string ends -/
theorem cAll_meet {c d : List Int} (hc : 0 < c.length) (hd : 0 < d.length) : ∃ e, (cAll (c ++ d))[(cAll c).length - 1]? = some (lastB c c.length, e) ∧ c.length ≤ e ∧ e ≤ c.length + d.length ∧ (e = c.length → Bk (c ++ d) c.length) := by
  have key : ∀ j, j ≤ d.length → (∃ e, (cTo (c ++ d) (c.length + j))[(cTo c c.length).length]? = some (lastB c c.length, e) ∧ c.length ≤ e ∧ e < c.length + j ∧ (e = c.length → Bk (c ++ d) c.length)) ∨ (cTo (c ++ d) (c.length + j) = cTo c c.length ∧ lastB (c ++ d) (c.length + j) = lastB c c.length ∧ (0 < j → ¬ Bk (c ++ d) c.length)) := by
    intro j
    induction j with
    | zero => intro _; exact .inr ⟨cTo_app c d _ (Nat.le_refl _), lastB_app c d _ (Nat.le_refl _), fun h => by omega⟩
    | succ j ih =>
      intro hj
      rw [show c.length + (j + 1) = (c.length + j) + 1 from rfl, cTo, lastB]
      rcases ih (by omega) with ⟨e, h1, h2, h3, h4⟩ | ⟨h1, h2, h3⟩
      · left
        refine ⟨e, ?_, h2, by omega, h4⟩
        split
        · rw [List.getElem?_append_left (List.getElem?_eq_some_iff.1 h1).1]; exact h1
        · exact h1
      · by_cases hb : Bk (c ++ d) (c.length + j)
        · left
          rw [if_pos hb, h1, h2]
          refine ⟨c.length + j, by simp, by omega, by omega, fun e => ?_⟩
          rw [show c.length + j = c.length by omega] at hb; exact hb
        · right
          rw [if_neg hb, if_neg hb]
          refine ⟨h1, h2, fun _ => ?_⟩
          rcases Nat.eq_zero_or_pos j with e | e
          · subst e; exact hb
          · exact h3 e
  have hx : (cAll c).length - 1 = (cTo c c.length).length := by unfold cAll; rw [if_pos hc, List.length_append]; simp
  rw [hx]
  have he : cAll (c ++ d) = cTo (c ++ d) (c.length + d.length) ++ [(lastB (c ++ d) (c.length + d.length), c.length + d.length)] := by
    unfold cAll; rw [List.length_append, if_pos (by omega)]
  rw [he]
  rcases key d.length (Nat.le_refl _) with ⟨e, h1, h2, h3, h4⟩ | ⟨h1, h2, h3⟩
  · exact ⟨e, by rw [List.getElem?_append_left (List.getElem?_eq_some_iff.1 h1).1]; exact h1, h2, by omega, h4⟩
  · refine ⟨c.length + d.length, by rw [h1, h2]; simp, by omega, Nat.le_refl _, fun e => by omega⟩
theorem ext_app1 {s t : ByteArray} {i j : Nat} (h : j ≤ s.size) : (s ++ t).extract i j = s.extract i j := by
  apply ByteArray.ext
  have e : s.size = s.data.size := rfl
  rw [ByteArray.data_extract, ByteArray.data_extract, ByteArray.data_append]
  apply Array.ext'
  simp only [Array.toList_extract, Array.toList_append, List.extract_eq_take_drop]
  have hl : s.data.toList.length = s.size := rfl
  rcases Nat.lt_or_ge j i with h1 | h1
  · rw [show j - i = 0 by omega, List.take_zero, List.take_zero]
  · rw [List.drop_append_of_le_length (by omega), List.take_append_of_le_length (by rw [List.length_drop]; omega)]
theorem ext_app2 {s t : ByteArray} {i j : Nat} : (s ++ t).extract (s.size + i) (s.size + j) = t.extract i j := by
  apply ByteArray.ext
  rw [ByteArray.data_extract, ByteArray.data_extract, ByteArray.data_append]
  apply Array.ext'
  simp only [Array.toList_extract, Array.toList_append, List.extract_eq_take_drop]
  have hl : s.data.toList.length = s.size := rfl
  rw [show s.size + j - (s.size + i) = j - i by omega, ← hl, ← List.drop_drop, List.drop_left]
theorem run_of {s : ByteArray} (h : okS s = true) : Run s (pts s) := ⟨h, rfl⟩
theorem cls_app {s t : ByteArray} (hs : okS s = true) (ht : okS t = true) : okS (s ++ t) = true ∧ cls (s ++ t) = cls s ++ cls t := by
  have h := (run_of hs).append (run_of ht)
  refine ⟨h.ok, ?_⟩
  unfold Go.Ob.cls
  rw [h.pts, List.map_append]
theorem sub_app1 {s t : ByteArray} (hs : okS s = true) {p : Nat × Nat} (h1 : p.1 ≤ nR s) (h2 : p.2 ≤ nR s) : subS (s ++ t) p = subS s p := by
  unfold subS
  have h := rpos_mono s h2
  rw [nR_end] at h
  rw [rpos_app1 t hs _ h1, rpos_app1 t hs _ h2, ext_app1 h]
theorem sub_app2 {s t : ByteArray} (hs : okS s = true) (p : Nat × Nat) : subS (s ++ t) (shP (nR s) p) = subS t p := by
  unfold subS shP
  dsimp only
  rw [rpos_app2 t hs, rpos_app2 t hs, ext_app2]
theorem clS_join {s t : ByteArray} (hs : okS s = true) (ht : okS t = true) (h1 : 0 < nR s) (h2 : 0 < nR t) (hb : Bk (cls s ++ cls t) (cls s).length) : clS (s ++ t) = clS s ++ clS t := by
  unfold clS
  rw [(cls_app hs ht).2, cAll_join (by rw [cls_len]; exact h1) (by rw [cls_len]; exact h2) hb, List.map_append, List.map_map]
  congr 1
  · apply List.map_congr_left
    intro p hp
    obtain ⟨_, a, b⟩ := cAll_mem hp
    rw [cls_len] at a
    exact sub_app1 hs (by omega) a
  · apply List.map_congr_left
    intro p hp
    show subS (s ++ t) (shP (cls s).length p) = _
    rw [cls_len]
    exact sub_app2 hs p
end Go.Ob
