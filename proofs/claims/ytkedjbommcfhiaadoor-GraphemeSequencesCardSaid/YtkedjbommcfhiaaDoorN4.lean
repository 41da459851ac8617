import Derived.Test.YtkedjbommcfhiaaDoorK10
import Derived.Test.YtkedjbommcfhiaaDoorObW
set_option linter.unusedVariables false
set_option linter.unusedSimpArgs false
namespace Go.Ob
open Go.Proofs
/-! ### strings that are joined -/
theorem byt_app1 (s t : ByteArray) (i : Nat) (h : i < s.size) : byt (s ++ t) i = byt s i := by
  have h' : i < s.data.toList.length := by rw [← Lib.size_eq]; exact h
  unfold byt
  rw [show (s ++ t).data.toList = s.data.toList ++ t.data.toList by simp]
  simp only [List.getD_eq_getElem?_getD]
  rw [List.getElem?_append_left h']
theorem byt_app2 (s t : ByteArray) (i : Nat) : byt (s ++ t) (s.size + i) = byt t i := by
  unfold byt
  rw [show (s ++ t).data.toList = s.data.toList ++ t.data.toList by simp, Lib.size_eq s]
  simp only [List.getD_eq_getElem?_getD]
  rw [List.getElem?_append_right (by omega)]
  congr 3; omega
theorem size_app (s t : ByteArray) : (s ++ t).size = s.size + t.size := by simp
theorem dc_app1 (s t : ByteArray) (p : Nat) (h : p < s.size) (hb : ¬ BadAt s p) : Utf8.decode (s ++ t) p = Utf8.decode s p := by
  have hw := dc_in s p h
  unfold BadAt at hb
  rw [dc_N] at hw hb
  rw [dc_N (s ++ t), dc_N s, size_app, byt_app1 s t p h]
  exact decodeN_cut (by omega) hb (fun h1 => byt_app1 s t _ (by omega)) (fun h1 => byt_app1 s t _ (by omega)) (fun h1 => byt_app1 s t _ (by omega))
theorem dc_app2 (s t : ByteArray) (p : Nat) : Utf8.decode (s ++ t) (s.size + p) = Utf8.decode t p := by
  rw [dc_N (s ++ t), dc_N t, size_app, byt_app2, Nat.add_assoc, Nat.add_assoc, Nat.add_assoc, byt_app2, byt_app2, byt_app2, show s.size + t.size - (s.size + p) = t.size - p by omega]
theorem rpos_app1 {s : ByteArray} (t : ByteArray) (hok : okS s = true) : ∀ k, k ≤ nR s → rpos (s ++ t) k = rpos s k
  | 0, _ => rfl
  | k + 1, h => by
    have ih := rpos_app1 t hok k (by omega)
    rw [rpos, rpos, ih, dc_app1 s t _ (nR_lt.1 (by omega)) (okS_at hok (by omega))]
theorem rpos_app2 {s : ByteArray} (t : ByteArray) (hok : okS s = true) : ∀ k, rpos (s ++ t) (nR s + k) = s.size + rpos t k
  | 0 => by rw [Nat.add_zero, rpos_app1 t hok _ (Nat.le_refl _), nR_end]; rfl
  | k + 1 => by
    rw [← Nat.add_assoc, rpos, rpos_app2 t hok k, dc_app2, rpos, Nat.add_assoc]
/-- a valid string of these code points -/
structure Run (s : ByteArray) (l : List Int) : Prop where
  ok : okS s = true
  pts : pts s = l
theorem Run.len {s : ByteArray} {l : List Int} (h : Run s l) : nR s = l.length := by rw [← h.pts, pts_len]
theorem Run.cls {s : ByteArray} {l : List Int} (h : Run s l) : cls s = l.map classP := by unfold Go.Ob.cls; rw [h.pts]
theorem Run.nil : Run ⟨#[]⟩ [] := ⟨by decide, by decide⟩
theorem Run.append {s t : ByteArray} {l m : List Int} (hs : Run s l) (ht : Run t m) : Run (s ++ t) (l ++ m) := by
  have hn : nR (s ++ t) = nR s + nR t := (nR_eq (by rw [rpos_app2 t hs.ok, nR_end, size_app])).symm
  have h1 : ∀ k, k < nR s → Utf8.decode (s ++ t) (rpos (s ++ t) k) = Utf8.decode s (rpos s k) := fun k hk => by
    rw [rpos_app1 t hs.ok k (by omega), dc_app1 s t _ (nR_lt.1 hk) (okS_at hs.ok hk)]
  have h2 : ∀ k, Utf8.decode (s ++ t) (rpos (s ++ t) (nR s + k)) = Utf8.decode t (rpos t k) := fun k => by
    rw [rpos_app2 t hs.ok, dc_app2]
  refine ⟨decide_eq_true fun k hk => ?_, ?_⟩
  · rw [hn] at hk
    unfold BadAt
    rcases Nat.lt_or_ge k (nR s) with h | h
    · rw [h1 k h]; exact okS_at hs.ok h
    · obtain ⟨j, rfl⟩ : ∃ j, k = nR s + j := ⟨k - nR s, by omega⟩
      rw [h2 j]; exact okS_at ht.ok (by omega)
  · rw [← hs.pts, ← ht.pts]
    apply List.ext_getElem?
    intro k
    rcases Nat.lt_or_ge k (nR s) with h | h
    · rw [List.getElem?_append_left (by rw [pts_len]; exact h)]
      simp only [Go.Ob.pts, ptsTo, List.getElem?_map, List.getElem?_range (show k < nR (s ++ t) by omega), List.getElem?_range h, Option.map_some, ptN, h1 k h]
    · rw [List.getElem?_append_right (by rw [pts_len]; exact h), pts_len]
      obtain ⟨j, rfl⟩ : ∃ j, k = nR s + j := ⟨k - nR s, by omega⟩
      rw [Nat.add_sub_cancel_left]
      rcases Nat.lt_or_ge j (nR t) with hj | hj
      · simp only [Go.Ob.pts, ptsTo, List.getElem?_map, List.getElem?_range (show nR s + j < nR (s ++ t) by omega), List.getElem?_range hj, Option.map_some, ptN, h2 j]
      · rw [List.getElem?_eq_none (by rw [pts_len]; omega), List.getElem?_eq_none (by rw [pts_len]; omega)]
def repS (s : ByteArray) : Nat → ByteArray
  | 0 => ⟨#[]⟩
  | n + 1 => repS s n ++ s
def repL (l : List Int) : Nat → List Int
  | 0 => []
  | n + 1 => repL l n ++ l
theorem Run.rep {s : ByteArray} {l : List Int} (h : Run s l) : ∀ n, Run (repS s n) (repL l n)
  | 0 => Run.nil
  | n + 1 => (Run.rep h n).append h
theorem repS_size (s : ByteArray) : ∀ n, (repS s n).size = n * s.size
  | 0 => by rw [Nat.zero_mul]; rfl
  | n + 1 => by rw [repS, size_app, repS_size s n, Nat.add_mul, Nat.one_mul]
theorem repL_one (x : Int) : ∀ n, repL [x] n = List.replicate n x
  | 0 => rfl
  | n + 1 => by rw [repL, repL_one x n, List.replicate_succ']
theorem repL_map (l : List Int) (f : Int → Int) : ∀ n, (repL l n).map f = repL (l.map f) n
  | 0 => rfl
  | n + 1 => by rw [repL, List.map_append, repL_map l f n, repL]
/-! ### counting clusters -/
theorem count_run {s : ByteArray} {l : List Int} (h : Run s l) : (cluV s).length = (cAll (l.map classP)).length ∧ errU s = 0 := by
  obtain ⟨_, _, _, v4, v5⟩ := okV h.ok
  rw [v4, v5, clS_len, h.cls]
  exact ⟨rfl, rfl⟩
/-- classes that hold together whatever lies before -/
def Glue (a b : Int) : Prop := ¬ Ctl a ∧ ¬ Ctl b ∧ (Hang a b ∨ b = 4 ∨ b = 5 ∨ b = 7 ∨ a = 6)
theorem Glue.bd {a b : Int} (h : Glue a b) (pd : Bool) (rg : Int) : bd a b pd rg = false := by
  obtain ⟨h1, h2, h3⟩ := h
  unfold Go.Ob.bd
  rw [if_neg (fun e => h1 (.inl e.1)), if_neg (by rintro (h | h); exact h1 h; exact h2 h), if_pos h3]
theorem glue_one {c : List Int} (h0 : 0 < c.length) (h : ∀ k, k + 1 < c.length → Glue (iAt c k) (iAt c ((k + 1 : Nat) : Int))) : (cAll c).length = 1 := by
  refine cAll_one h0 fun j hj ⟨a, b⟩ => ?_
  obtain ⟨m, rfl⟩ : ∃ m, j = m + 1 := ⟨j - 1, by omega⟩
  unfold bAt at b
  rw [st_before, (h m hj).bd] at b
  cases b
theorem iAt_app1 (l m : List Int) (k : Nat) (h : k < l.length) : iAt (l ++ m) k = iAt l k := by
  unfold iAt; rw [Int.toNat_natCast]; simp [List.getD_eq_getElem?_getD, List.getElem?_append_left h]
theorem iAt_app2 (l m : List Int) (k : Nat) : iAt (l ++ m) ((l.length + k : Nat) : Int) = iAt m k := by
  unfold iAt; rw [Int.toNat_natCast, Int.toNat_natCast, List.getD_eq_getElem?_getD, List.getD_eq_getElem?_getD, List.getElem?_append_right (by omega), Nat.add_sub_cancel_left]
theorem iAt_rep (x : Int) (n k : Nat) (h : k < n) : iAt (List.replicate n x) k = x := by
  unfold iAt; rw [Int.toNat_natCast]; simp [List.getD_eq_getElem?_getD, h]
theorem stL_app (c d : List Int) : ∀ k, k ≤ c.length → stL (c ++ d) k = stL c k
  | 0, _ => rfl
  | k + 1, h => by rw [stL, stL, stL_app c d k (by omega), iAt_app1 c d k (by omega)]
theorem bAt_app (c d : List Int) (k : Nat) (h : k < c.length) : bAt (c ++ d) k = bAt c k := by
  unfold bAt; rw [stL_app c d k (by omega), iAt_app1 c d k h]
/-- a picture, then modifiers, joiners and pictures -/
theorem family_free : ∀ n, (stL (14 :: repL [4, 5, 14] n) (3 * n + 1)).before = 14 ∧ (stL (14 :: repL [4, 5, 14] n) (3 * n + 1)).pic = true ∧ (14 :: repL [4, 5, 14] n).length = 3 * n + 1 ∧ ∀ j, 1 ≤ j → j < 3 * n + 1 → bAt (14 :: repL [4, 5, 14] n) j = false
  | 0 => ⟨rfl, rfl, rfl, fun j h1 h2 => by omega⟩
  | n + 1 => by
    obtain ⟨h1, h2, hl, h3⟩ := family_free n
    generalize hc : (14 :: repL [4, 5, 14] n) = c at h1 h2 hl h3
    have he : (14 :: repL [4, 5, 14] (n + 1)) = c ++ [4, 5, 14] := by rw [← hc]; rfl
    rw [he]
    have s0 : stL (c ++ [4, 5, 14]) (3 * n + 1) = stL c (3 * n + 1) := stL_app c _ _ (by omega)
    have i0 : iAt (c ++ [4, 5, 14]) ((3 * n + 1 : Nat) : Int) = 4 := by have := iAt_app2 c [4, 5, 14] 0; rw [hl] at this; exact this
    have i1 : iAt (c ++ [4, 5, 14]) ((3 * n + 1 + 1 : Nat) : Int) = 5 := by have := iAt_app2 c [4, 5, 14] 1; rw [hl] at this; exact this
    have i2 : iAt (c ++ [4, 5, 14]) ((3 * n + 1 + 2 : Nat) : Int) = 14 := by have := iAt_app2 c [4, 5, 14] 2; rw [hl] at this; exact this
    have p1 : (stL (c ++ [4, 5, 14]) (3 * n + 1 + 1)).pic = true := by rw [st_pic, i0, s0, h2]; decide
    have d2 : (stL (c ++ [4, 5, 14]) (3 * n + 1 + 2)).picd = true := by rw [show 3 * n + 1 + 2 = (3 * n + 1 + 1) + 1 by omega, st_picd, i1, p1]; decide
    refine ⟨?_, ?_, by rw [List.length_append, hl]; simp; omega, fun j a b => ?_⟩
    · rw [show 3 * (n + 1) + 1 = (3 * n + 1 + 2) + 1 by omega, st_before, i2]
    · rw [show 3 * (n + 1) + 1 = (3 * n + 1 + 2) + 1 by omega, st_pic, i2]; exact decide_eq_true (.inl rfl)
    · rcases Nat.lt_or_ge j (3 * n + 1) with hj | hj
      · rw [bAt_app c _ j (by omega)]; exact h3 j a hj
      · have hj3 : j = 3 * n + 1 ∨ j = 3 * n + 1 + 1 ∨ j = 3 * n + 1 + 2 := by omega
        rcases hj3 with rfl | rfl | rfl
        · unfold bAt; rw [s0, h1, i0]; exact Glue.bd ⟨by decide, by decide, .inr (.inl rfl)⟩ _ _
        · unfold bAt; rw [st_before, i0, i1]; exact Glue.bd ⟨by decide, by decide, .inr (.inr (.inl rfl))⟩ _ _
        · unfold bAt
          rw [show stL (c ++ [4, 5, 14]) (3 * n + 1 + 2) = stepM (stL (c ++ [4, 5, 14]) (3 * n + 1 + 1)) (iAt (c ++ [4, 5, 14]) ((3 * n + 1 + 1 : Nat) : Int)) from rfl] at d2 ⊢
          rw [d2, i2, show (stepM (stL (c ++ [4, 5, 14]) (3 * n + 1 + 1)) (iAt (c ++ [4, 5, 14]) ((3 * n + 1 + 1 : Nat) : Int))).before = iAt (c ++ [4, 5, 14]) ((3 * n + 1 + 1 : Nat) : Int) from rfl, i1]
          unfold bd
          rw [if_neg (by decide), if_neg (by decide), if_neg (by decide), if_pos ⟨rfl, rfl, rfl⟩]
theorem family_one (n : Nat) : (cAll (14 :: repL [4, 5, 14] n)).length = 1 := by
  obtain ⟨_, _, hl, h3⟩ := family_free n
  refine cAll_one (by omega) fun j hj ⟨a, b⟩ => ?_
  rw [h3 j a (by omega)] at b; cases b
/-- regional indicators: a boundary behind every second one -/
theorem flags_reg (n : Nat) : ∀ k, k ≤ n → (stL (List.replicate n 13) k).reg = k
  | 0, _ => rfl
  | k + 1, h => by rw [st_reg, iAt_rep 13 n k (by omega), if_pos rfl, flags_reg n k (by omega)]; omega
theorem flags_bk (n k : Nat) (h : k < n) : Bk (List.replicate n 13) k ↔ 1 ≤ k ∧ k % 2 = 0 := by
  unfold Bk
  refine and_congr_right fun h1 => ?_
  obtain ⟨m, rfl⟩ : ∃ m, k = m + 1 := ⟨k - 1, by omega⟩
  unfold bAt
  rw [flags_reg n (m + 1) (by omega), st_before, iAt_rep 13 n m (by omega), iAt_rep 13 n (m + 1) h]
  unfold bd
  rw [if_neg (by decide), if_neg (by decide), if_neg (by decide), if_neg (fun h => absurd h.1 (by decide))]
  by_cases hr : ((m + 1 : Nat) : Int) % 2 = 1
  · rw [if_pos ⟨rfl, rfl, hr⟩]; simp; omega
  · rw [if_neg (fun e => hr e.2.2)]; simp; omega
theorem flags_to (n : Nat) : ∀ k, k ≤ n → (cTo (List.replicate n 13) k).length = (k - 1) / 2
  | 0, _ => rfl
  | k + 1, h => by
    have ih := flags_to n k (by omega)
    have hb := flags_bk n k (by omega)
    rw [cTo]
    split
    · rename_i hk
      have := hb.1 hk
      rw [List.length_append, ih, List.length_singleton]; omega
    · rename_i hk
      have : ¬ (1 ≤ k ∧ k % 2 = 0) := fun e => hk (hb.2 e)
      rw [ih]; omega
theorem flags_count (n : Nat) (h : 0 < n) : (cAll (List.replicate n 13)).length = (n + 1) / 2 := by
  unfold cAll
  rw [List.length_replicate, if_pos h, List.length_append, flags_to n n (Nat.le_refl _), List.length_singleton]; omega
theorem hangul_one (q k : Nat) : (cAll (List.replicate q 8 ++ [11] ++ List.replicate q 9 ++ List.replicate k 10)).length = 1 := by
  refine glue_one (by simp only [List.length_append, List.length_replicate, List.length_singleton]; omega) fun j hj => ?_
  simp only [List.length_append, List.length_replicate, List.length_singleton] at hj
  have e1 : ∀ i : Nat, i < q → iAt (List.replicate q 8 ++ [11] ++ List.replicate q 9 ++ List.replicate k 10) i = 8 := fun i hi => by
    rw [iAt_app1 _ _ _ (by simp only [List.length_append, List.length_replicate, List.length_singleton]; omega), iAt_app1 _ _ _ (by simp only [List.length_append, List.length_replicate, List.length_singleton]; omega), iAt_app1 _ _ _ (by simpa using hi), iAt_rep 8 q i hi]
  have e2 : iAt (List.replicate q 8 ++ [11] ++ List.replicate q 9 ++ List.replicate k 10) q = 11 := by
    rw [iAt_app1 _ _ _ (by simp only [List.length_append, List.length_replicate, List.length_singleton]; omega), iAt_app1 _ _ _ (by simp)]
    have := iAt_app2 (List.replicate q 8) [11] 0
    rw [List.length_replicate] at this; exact this
  have e3 : ∀ i : Nat, q < i → i < 2 * q + 1 → iAt (List.replicate q 8 ++ [11] ++ List.replicate q 9 ++ List.replicate k 10) i = 9 := fun i h1 h2 => by
    rw [iAt_app1 _ _ _ (by simp only [List.length_append, List.length_replicate, List.length_singleton]; omega)]
    have := iAt_app2 (List.replicate q 8 ++ [11]) (List.replicate q 9) (i - (q + 1))
    have hl : (List.replicate q (8 : Int) ++ [11]).length = q + 1 := by simp
    rw [hl, show q + 1 + (i - (q + 1)) = i by omega] at this
    rw [this, iAt_rep 9 q _ (by omega)]
  have e4 : ∀ i : Nat, 2 * q + 1 ≤ i → i < 2 * q + 1 + k → iAt (List.replicate q 8 ++ [11] ++ List.replicate q 9 ++ List.replicate k 10) i = 10 := fun i h1 h2 => by
    have := iAt_app2 (List.replicate q 8 ++ [11] ++ List.replicate q 9) (List.replicate k 10) (i - (2 * q + 1))
    have hl : (List.replicate q (8 : Int) ++ [11] ++ List.replicate q 9).length = 2 * q + 1 := by simp only [List.length_append, List.length_replicate, List.length_singleton]; omega
    rw [hl, show 2 * q + 1 + (i - (2 * q + 1)) = i by omega] at this
    rw [this, iAt_rep 10 k _ (by omega)]
  have hc : ∀ a b : Int, Hang a b → ¬ Ctl a → ¬ Ctl b → Glue a b := fun a b h h1 h2 => ⟨h1, h2, .inl h⟩
  rcases Nat.lt_trichotomy j q with h | h | h
  · rw [e1 j h]
    rcases Nat.lt_or_eq_of_le (Nat.succ_le_of_lt h) with h2 | h2
    · rw [e1 (j + 1) h2]; exact hc _ _ (by decide) (by decide) (by decide)
    · rw [show j + 1 = q from h2, e2]; exact hc _ _ (by decide) (by decide) (by decide)
  · subst h
    rw [e2]
    rcases Nat.lt_or_ge (j + 1) (2 * j + 1) with h2 | h2
    · rw [e3 (j + 1) (by omega) h2]; exact hc _ _ (by decide) (by decide) (by decide)
    · rw [e4 (j + 1) h2 (by omega)]; exact hc _ _ (by decide) (by decide) (by decide)
  · rcases Nat.lt_or_ge j (2 * q + 1) with h1 | h1
    · rw [e3 j h h1]
      rcases Nat.lt_or_ge (j + 1) (2 * q + 1) with h2 | h2
      · rw [e3 (j + 1) (by omega) h2]; exact hc _ _ (by decide) (by decide) (by decide)
      · rw [e4 (j + 1) h2 (by omega)]; exact hc _ _ (by decide) (by decide) (by decide)
    · rw [e4 j h1 (by omega), e4 (j + 1) (by omega) (by omega)]; exact hc _ _ (by decide) (by decide) (by decide)
theorem marks_one (q : Nat) : (cAll (0 :: List.replicate q 4)).length = 1 := by
  refine glue_one (by simp) fun j hj => ?_
  have e : ∀ i : Nat, i < q → iAt (0 :: List.replicate q 4) ((i + 1 : Nat) : Int) = 4 := fun i hi => by
    have := iAt_app2 [0] (List.replicate q 4) i
    rw [List.length_singleton, Nat.add_comm 1 i] at this
    rw [show (0 :: List.replicate q 4 : List Int) = [0] ++ List.replicate q 4 from rfl, this, iAt_rep 4 q i hi]
  simp only [List.length_cons, List.length_replicate] at hj
  rw [e j (by omega)]
  refine ⟨?_, by decide, .inr (.inl rfl)⟩
  cases j with
  | zero => rw [show iAt (0 :: List.replicate q 4) ((0 : Nat) : Int) = 0 from rfl]; decide
  | succ i => rw [e i (by omega)]; decide
/-! ### bytes below 128 -/
theorem strOfNums_append (l m : List Int) : strOfNums (l ++ m) = strOfNums l ++ strOfNums m := by
  apply ByteArray.ext
  simp [strOfNums]
theorem run_byte : ∀ x : Nat, x < 128 → Run (strOfNums [(x : Int)]) [(x : Int)] := by
  have h : ∀ x : Nat, x < 128 → okS (strOfNums [(x : Int)]) = true ∧ pts (strOfNums [(x : Int)]) = [(x : Int)] := by decide +kernel
  exact fun x hx => ⟨(h x hx).1, (h x hx).2⟩
theorem run_bytes : ∀ m : List Int, (∀ x ∈ m, 0 ≤ x ∧ x < 128) → Run (strOfNums m) m
  | [], _ => Run.nil
  | x :: m, h => by
    have hx := h x (List.mem_cons_self ..)
    have h1 := run_byte x.toNat (by omega)
    rw [show ((x.toNat : Nat) : Int) = x by omega] at h1
    exact strOfNums_append [x] m ▸ h1.append (run_bytes m fun y hy => h y (List.mem_cons_of_mem _ hy))
theorem class_byte' : ∀ x : Nat, x < 128 → classP (x : Int) = if x = 13 then 1 else if x = 10 then 2 else if x < 32 ∨ x = 127 then 3 else 0 := by decide +kernel
theorem class_byte (x : Int) (h0 : 0 ≤ x) (h1 : x < 128) : (classP x = 1 ↔ x = 13) ∧ (classP x = 2 ↔ x = 10) ∧ (classP x = 0 ∨ classP x = 1 ∨ classP x = 2 ∨ classP x = 3) := by
  have h := class_byte' x.toNat (by omega)
  rw [show ((x.toNat : Nat) : Int) = x by omega] at h
  rw [h]
  by_cases e1 : x.toNat = 13
  · rw [if_pos e1]; omega
  · rw [if_neg e1]
    by_cases e2 : x.toNat = 10
    · rw [if_pos e2]; omega
    · rw [if_neg e2]
      split <;> omega
theorem bd_plain {a b : Int} (ha : a = 0 ∨ a = 1 ∨ a = 2 ∨ a = 3) (hb : b = 0 ∨ b = 1 ∨ b = 2 ∨ b = 3) (pd : Bool) (rg : Int) : bd a b pd rg = !decide (a = 1 ∧ b = 2) := by
  unfold bd Ctl Hang
  rcases ha with rfl | rfl | rfl | rfl <;> rcases hb with rfl | rfl | rfl | rfl <;> simp
def wN (m : List Int) : Nat → Nat
  | 0 => 0
  | i + 1 => wN m i + if iAt m i = 10 ∧ i ≠ 0 ∧ iAt m ((i : Int) - 1) = 13 then 0 else 1
theorem wN_le (m : List Int) : ∀ i, wN m i ≤ i
  | 0 => Nat.le_refl _
  | i + 1 => by have := wN_le m i; rw [wN]; split <;> omega
theorem iAt_mem (m : List Int) (i : Nat) (h : i < m.length) : iAt m i ∈ m := by
  unfold iAt
  rw [Int.toNat_natCast, List.getD_eq_getElem?_getD, List.getElem?_eq_getElem h]
  exact List.getElem_mem h
theorem iAt_mapN (m : List Int) (f : Int → Int) (i : Nat) (h : i < m.length) : iAt (m.map f) i = f (iAt m i) := by
  unfold iAt
  rw [Int.toNat_natCast]
  simp [List.getD_eq_getElem?_getD, List.getElem?_eq_getElem h]
theorem lines_to (m : List Int) (hm : ∀ x ∈ m, 0 ≤ x ∧ x < 128) : ∀ k, k + 1 ≤ m.length → wN m (k + 1) = (cTo (m.map classP) (k + 1)).length + 1
  | 0, _ => by
    rw [wN, wN, cTo, cTo, if_neg (by omega), if_neg (fun h => absurd h.1 (by omega))]; rfl
  | k + 1, h => by
    have ih := lines_to m hm k (by omega)
    have a1 := hm _ (iAt_mem m k (by omega))
    have a2 := hm _ (iAt_mem m (k + 1) (by omega))
    obtain ⟨p1, p2, p3⟩ := class_byte _ a1.1 a1.2
    obtain ⟨q1, q2, q3⟩ := class_byte _ a2.1 a2.2
    have hb : Bk (m.map classP) (k + 1) ↔ ¬ (iAt m (k : Nat) = 13 ∧ iAt m ((k + 1 : Nat) : Int) = 10) := by
      unfold Bk bAt
      rw [st_before, iAt_mapN m _ k (by omega), iAt_mapN m _ (k + 1) (by omega), bd_plain p3 q3, ← p1, ← q2]
      simp only [Bool.not_eq_true', decide_eq_false_iff_not]
      exact ⟨fun h => h.2, fun h => ⟨by omega, h⟩⟩
    rw [wN, ih, cTo.eq_2 _ (k + 1)]
    rw [show (((k + 1 : Nat) : Int) - 1) = (k : Nat) by omega]
    by_cases hq : iAt m (k : Nat) = 13 ∧ iAt m ((k + 1 : Nat) : Int) = 10
    · rw [if_pos ⟨hq.2, by omega, hq.1⟩, if_neg (fun h => (hb.1 h) hq)]
    · rw [if_neg (fun h => hq ⟨h.2.2, h.1⟩), if_pos (hb.2 hq), List.length_append]; simp
theorem lines_count (m : List Int) (hm : ∀ x ∈ m, 0 ≤ x ∧ x < 128) : (cluV (strOfNums m)).length = wN m m.length ∧ errU (strOfNums m) = 0 := by
  obtain ⟨h1, h2⟩ := count_run (run_bytes m hm)
  refine ⟨?_, h2⟩
  rw [h1]
  cases hl : m.length with
  | zero =>
    rw [List.eq_nil_of_length_eq_zero hl]; rfl
  | succ k =>
    rw [lines_to m hm k (by omega)]
    unfold cAll
    rw [List.length_map, hl, if_pos (by omega), List.length_append]; rfl
theorem wN_take (m : List Int) (i : Nat) : ∀ k, k ≤ i → wN (m.take i) k = wN m k
  | 0, _ => rfl
  | k + 1, h => by
    have e : ∀ j : Int, j.toNat < i → iAt (m.take i) j = iAt m j := fun j hj => by
      unfold iAt
      simp [List.getD_eq_getElem?_getD, List.getElem?_take, hj]
    rw [wN, wN, wN_take m i k (by omega), e k (by omega), e ((k : Int) - 1) (by omega)]
end Go.Ob
