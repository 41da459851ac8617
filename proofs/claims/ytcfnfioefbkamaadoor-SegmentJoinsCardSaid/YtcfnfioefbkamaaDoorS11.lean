import Derived.Test.YtcfnfioefbkamaaDoorS8
import Derived.Test.YtcfnfioefbkamaaDoorObY
set_option linter.unusedVariables false
set_option linter.unusedSimpArgs false
namespace Go.Ob
open Go.Proofs
/-! ### the encoding of a code point -/
def dv (p : Int) : Nat → Int
  | 0 => p
  | k + 1 => dv p k / 64
theorem dv_range {p : Int} (h0 : 0 ≤ p) (h1 : p ≤ 1114111) : ∀ k, 0 ≤ dv p k ∧ dv p k ≤ 1114111
  | 0 => ⟨h0, h1⟩
  | k + 1 => by have := dv_range h0 h1 k; rw [dv]; omega
def szP (p : Int) : Nat := if p < 128 then 1 else if p < 2048 then 2 else if p < 65536 then 3 else 4
theorem szP_cases (p : Int) : szP p = 1 ∧ p < 128 ∨ szP p = 2 ∧ 128 ≤ p ∧ p < 2048 ∨ szP p = 3 ∧ 2048 ≤ p ∧ p < 65536 ∨ szP p = 4 ∧ 65536 ≤ p := by
  unfold szP; repeat' split
  all_goals omega
def encR (p : Int) (n m : Nat) : List Int := (List.range n).map fun j => if n ≤ j + m then 128 + dv p (n - 1 - j) % 64 else 0
theorem encR_len (p : Int) (n m : Nat) : (encR p n m).length = n := by simp [encR]
theorem encR_zero (p : Int) (n : Nat) : encB (encR p n 0) = List.replicate n [.v (.int .u8 0)] := by
  apply List.ext_getElem
  · simp [encB, encR]
  · intro i h1 h2
    have hi : i < n := by simpa [encB, encR] using h1
    simp [encB, encR, show ¬ n ≤ i by omega]
theorem encB_set (l : List Int) (i : Nat) (x : Int) : (encB l).set i [.v (.int .u8 x)] = encB (l.set i x) := by simp [encB, List.map_set]
theorem encR_set (p : Int) (n m : Nat) (h : m + 1 < n) : (encR p n m).set (n - 1 - m) (128 + dv p m % 64) = encR p n (m + 1) := by
  apply List.ext_getElem
  · simp [encR]
  · intro i h1 h2
    have hi : i < n := by simpa [encR] using h2
    rw [List.getElem_set]
    simp only [encR, List.getElem_map, List.getElem_range]
    split
    · rename_i e
      rw [if_pos (by omega), show n - 1 - i = m by omega]
    · rename_i e
      by_cases hh : n ≤ i + m
      · rw [if_pos hh, if_pos (by omega)]
      · rw [if_neg hh, if_neg (by omega)]
def firstL : List Int := [0, 0, 192, 224, 240]
def encN (p : Int) : List Int := if p < 128 then [p] else (encR p (szP p) (szP p - 1)).set 0 (iAt firstL (szP p) + dv p (szP p - 1))
def encU (p : Int) : ByteArray := strOfNums (encN p)
theorem encF_range {p : Int} (h0 : 0 ≤ p) (h1 : p ≤ 1114111) (h : ¬ p < 128) : 0 ≤ iAt firstL (szP p) + dv p (szP p - 1) ∧ iAt firstL (szP p) + dv p (szP p - 1) ≤ 255 := by
  rcases szP_cases p with ⟨e, a⟩ | ⟨e, a, b⟩ | ⟨e, a, b⟩ | ⟨e, a⟩
  · omega
  · rw [e]; show 0 ≤ 192 + p / 64 ∧ 192 + p / 64 ≤ 255; omega
  · rw [e]; show 0 ≤ 224 + p / 64 / 64 ∧ 224 + p / 64 / 64 ≤ 255; omega
  · rw [e]; show 0 ≤ 240 + p / 64 / 64 / 64 ∧ 240 + p / 64 / 64 / 64 ≤ 255; omega
theorem cons_eqI {a b : Int} {l m : List Int} (h : a = b) (k : l = m) : a :: l = b :: m := by rw [h, k]
theorem str_extract (u : ByteArray) (n : Nat) (h : n ≤ u.size) : strOfNums ((List.range n).map fun j => (byt u j : Int)) = u.extract 0 n := by
  apply ByteArray.ext
  apply Array.toList_inj.1
  rw [strOfNums_data, ByteArray.data_extract, Array.toList_extract, List.extract_eq_take_drop, List.drop_zero, Nat.sub_zero]
  have hs : u.data.toList.length = u.size := by simp
  apply List.ext_getElem
  · simp [h]
  · intro i h1 h2
    have hi : i < n := by simpa using h1
    have hb : byt u i = (u.data.toList[i]'(by omega)).toNat := by
      unfold byt
      rw [List.getD_eq_getElem?_getD, List.getElem?_eq_getElem (by omega)]; rfl
    rw [List.getElem_map, List.getElem_map, List.getElem_range, List.getElem_take, hb, Int.toNat_natCast]
    exact UInt8.ofNat_toNat
theorem enc_full {u : ByteArray} {n : Nat} (hn : shN (byt u 0) = n) (h1 : 1 ≤ n) (hin : n ≤ u.size) (hc : ConT u 0 n) (hb : ¬ PtBad (accR u 0 n) n) : encU (accR u 0 n) = u.extract 0 n := by
  rw [← str_extract u n hin]
  unfold encU
  refine congrArg strOfNums ?_
  have h0 := byt_lt u 0
  have hi : n = 1 ∨ n = 2 ∨ n = 3 ∨ n = 4 := by rcases shN_cases (byt u 0) with h | h | h | h | h <;> omega
  have c1 := fun h => hc 1 (by omega) h
  have c2 := fun h => hc 2 (by omega) h
  have c3 := fun h => hc 3 (by omega) h
  simp only [Nat.zero_add] at c1 c2 c3
  have hl2 : iAt leastL ((2 : Nat) : Int) = 128 := rfl
  have hl3 : iAt leastL ((3 : Nat) : Int) = 2048 := rfl
  have hl4 : iAt leastL ((4 : Nat) : Int) = 65536 := rfl
  unfold PtBad at hb
  rcases hi with rfl | rfl | rfl | rfl
  · have e : accR u 0 1 = byt u 0 ∧ (byt u 0 : Int) < 128 := by
      rw [accR1]; unfold shN at hn; unfold shB; repeat' split at hn
      all_goals (repeat' split)
      all_goals omega
    rw [e.1]
    unfold encN
    rw [if_pos e.2]; rfl
  · have ⟨hsb, hlo, hhi⟩ : shB (byt u 0) = byt u 0 - 192 ∧ 194 ≤ byt u 0 ∧ byt u 0 ≤ 223 := by
      unfold shN at hn; unfold shB; repeat' split at hn
      all_goals (repeat' split)
      all_goals omega
    have d1 := c1 (by omega)
    rw [accR2, hsb] at hb ⊢
    simp only [Nat.zero_add] at hb ⊢
    obtain ⟨p, hp⟩ : ∃ p : Int, 64 * ((byt u 0 : Int) - 192) + byt u 1 - 128 = p := ⟨_, rfl⟩
    rw [hp] at hb ⊢
    have hz : szP p = 2 := by unfold szP; rw [if_neg (by omega), if_pos (by omega)]
    unfold encN
    rw [if_neg (by omega), hz]
    show [192 + p / 64, 128 + p % 64] = [((byt u 0 : Nat) : Int), ((byt u 1 : Nat) : Int)]
    exact cons_eqI (by omega) (cons_eqI (by omega) rfl)
  · have ⟨hsb, hlo, hhi⟩ : shB (byt u 0) = byt u 0 - 224 ∧ 224 ≤ byt u 0 ∧ byt u 0 ≤ 239 := by
      unfold shN at hn; unfold shB; repeat' split at hn
      all_goals (repeat' split)
      all_goals omega
    have d1 := c1 (by omega)
    have d2 := c2 (by omega)
    rw [accR3, hsb] at hb ⊢
    simp only [Nat.zero_add] at hb ⊢
    obtain ⟨p, hp⟩ : ∃ p : Int, 64 * (64 * ((byt u 0 : Int) - 224) + byt u 1 - 128) + byt u 2 - 128 = p := ⟨_, rfl⟩
    rw [hp] at hb ⊢
    have hz : szP p = 3 := by unfold szP; rw [if_neg (by omega), if_neg (by omega), if_pos (by omega)]
    unfold encN
    rw [if_neg (by omega), hz]
    show [224 + p / 64 / 64, 128 + p / 64 % 64, 128 + p % 64] = [((byt u 0 : Nat) : Int), ((byt u 1 : Nat) : Int), ((byt u 2 : Nat) : Int)]
    exact cons_eqI (by omega) (cons_eqI (by omega) (cons_eqI (by omega) rfl))
  · have ⟨hsb, hlo, hhi⟩ : shB (byt u 0) = byt u 0 - 240 ∧ 240 ≤ byt u 0 ∧ byt u 0 ≤ 244 := by
      unfold shN at hn; unfold shB; repeat' split at hn
      all_goals (repeat' split)
      all_goals omega
    have d1 := c1 (by omega)
    have d2 := c2 (by omega)
    have d3 := c3 (by omega)
    rw [accR4, hsb] at hb ⊢
    simp only [Nat.zero_add] at hb ⊢
    obtain ⟨p, hp⟩ : ∃ p : Int, 64 * (64 * (64 * ((byt u 0 : Int) - 240) + byt u 1 - 128) + byt u 2 - 128) + byt u 3 - 128 = p := ⟨_, rfl⟩
    rw [hp] at hb ⊢
    have hz : szP p = 4 := by unfold szP; rw [if_neg (by omega), if_neg (by omega), if_neg (by omega)]
    unfold encN
    rw [if_neg (by omega), hz]
    show [240 + p / 64 / 64 / 64, 128 + p / 64 / 64 % 64, 128 + p / 64 % 64, 128 + p % 64] = [((byt u 0 : Nat) : Int), ((byt u 1 : Nat) : Int), ((byt u 2 : Nat) : Int), ((byt u 3 : Nat) : Int)]
    exact cons_eqI (by omega) (cons_eqI (by omega) (cons_eqI (by omega) (cons_eqI (by omega) rfl)))
/-- what decoding gives where there is no error -/
theorem dec_ok {u : ByteArray} (h0 : 0 < u.size) (hb : ¬ BadAt u 0) : ∃ n : Nat, shN (byt u 0) = n ∧ 1 ≤ n ∧ n ≤ 4 ∧ n ≤ u.size ∧ ConT u 0 n ∧ ¬ PtBad (accR u 0 n) n ∧ ((Utf8.decode u 0).1 : Int) = accR u 0 n ∧ (Utf8.decode u 0).2 = n := by
  have hcs := shN_cases (byt u 0)
  have h1 : shN (byt u 0) ≠ 0 := fun h => hb (step_none u 0 h0 (.inl h))
  have h2 : ¬ ((0 : Nat) : Int) + shN (byt u 0) > u.size := fun h => hb (step_none u 0 h0 (.inr h))
  obtain ⟨n, hn⟩ : ∃ n : Nat, shN (byt u 0) = n := ⟨(shN (byt u 0)).toNat, by omega⟩
  have hc : ConT u 0 n := fun j a b => by
    by_cases h : byt u (0 + j) < 128 ∨ byt u (0 + j) > 191
    · exact absurd (step_cont u 0 j a (by omega) h) hb
    · omega
  obtain ⟨s1, s2⟩ := step_full u 0 n hn (by omega) (by omega) hc
  have hp : ¬ PtBad (accR u 0 n) n := fun h => hb (s1 h)
  obtain ⟨_, s3, s4⟩ := s2 hp
  exact ⟨n, hn, by omega, by omega, by omega, hc, hp, s3, s4⟩
theorem accR_step (s : ByteArray) (a i : Nat) (h : 1 ≤ i) : accR s a (i + 1) = accR s a i * 64 + byt s (a + i) - 128 := by
  obtain ⟨k, rfl⟩ : ∃ k, i = k + 1 := ⟨i - 1, by omega⟩
  rw [Int.mul_comm]
  rfl
theorem accR_pre {s : ByteArray} {a n i : Nat} (hn : shN (byt s a) = n) (h1 : 1 ≤ i) (h2 : i ≤ n) (hc : ConT s a n) : 0 ≤ accR s a i ∧ accR s a i ≤ 10000000 :=
  accR_range s a i h1 (by omega) fun j x y => hc j x (by omega)
theorem sh_lead {b n : Int} (h0 : 0 ≤ b) (hn : shN b = n) (h1 : 1 ≤ n) : (n = 1 ∧ b < 128 ∧ shB b = b) ∨ (n = 2 ∧ 194 ≤ b ∧ b ≤ 223 ∧ shB b = b - 192) ∨ (n = 3 ∧ 224 ≤ b ∧ b ≤ 239 ∧ shB b = b - 224) ∨ (n = 4 ∧ 240 ≤ b ∧ b ≤ 244 ∧ shB b = b - 240) := by
  unfold shN at hn; unfold shB; repeat' split at hn
  all_goals (repeat' split)
  all_goals omega
theorem pt_ok {p : Int} {n : Nat} (h1 : 1 ≤ n) (h4 : n ≤ 4) (h : ¬ PtBad p n) : 0 ≤ p ∧ p ≤ 1114111 ∧ ¬ (p ≥ 55296 ∧ p ≤ 57343) := by
  have hl : 0 ≤ iAt leastL (n : Int) := by
    have hi : n = 1 ∨ n = 2 ∨ n = 3 ∨ n = 4 := by omega
    rcases hi with rfl | rfl | rfl | rfl <;> decide
  unfold PtBad at h
  omega
/-- the rest of a string, decoded -/
theorem dec_rest {s : ByteArray} {k : Nat} (hok : okS s = true) (hk : rpos s k < s.size) : 0 < (s.extract (rpos s k) s.size).size ∧ ¬ BadAt (s.extract (rpos s k) s.size) 0 ∧ ((Utf8.decode (s.extract (rpos s k) s.size) 0).1 : Int) = ptN s k ∧ rpos s k + (Utf8.decode (s.extract (rpos s k) s.size) 0).2 = rpos s (k + 1) := by
  have hb := okS_at hok (nR_lt.2 hk)
  have hin := dc_in s (rpos s k) hk
  have e := dc_sub (s := s) (a := rpos s k) (b := s.size) (p := 0) (by omega) (Nat.le_refl _) (by omega) (by simpa using hin) (by simpa using hb)
  rw [Nat.add_zero] at e
  refine ⟨by rw [size_sub _ _ _ (by omega) (Nat.le_refl _)]; omega, ?_, by rw [e]; rfl, by rw [e, rpos]⟩
  unfold BadAt
  rw [e]
  exact hb
/-- the bytes within a code point -/
theorem byt_in {s : ByteArray} {k a : Nat} (hok : okS s = true) (hk : k < nR s) (h1 : rpos s k < a) (h2 : a < rpos s (k + 1)) : 128 ≤ byt s a ∧ byt s a ≤ 191 := by
  have hks := nR_lt.1 hk
  have hb := okS_at hok hk
  have hcs := shN_cases (byt s (rpos s k))
  have q1 : shN (byt s (rpos s k)) ≠ 0 := fun h => hb (step_none s _ hks (.inl h))
  have q2 : ¬ ((rpos s k : Nat) : Int) + shN (byt s (rpos s k)) > s.size := fun h => hb (step_none s _ hks (.inr h))
  obtain ⟨n, hn⟩ : ∃ n : Nat, shN (byt s (rpos s k)) = n := ⟨(shN (byt s (rpos s k))).toNat, by omega⟩
  have hc : ConT s (rpos s k) n := fun j a b => by
    by_cases h : byt s (rpos s k + j) < 128 ∨ byt s (rpos s k + j) > 191
    · exact absurd (step_cont s _ j a (by omega) h) hb
    · omega
  obtain ⟨s1, s2⟩ := step_full s _ n hn (by omega) (by omega) hc
  obtain ⟨_, _, s4⟩ := s2 (fun h => hb (s1 h))
  rw [rpos, s4] at h2
  have := hc (a - rpos s k) (by omega) (by omega)
  rwa [show rpos s k + (a - rpos s k) = a by omega] at this
theorem byt_lead {s : ByteArray} {k : Nat} (hok : okS s = true) (hk : k < nR s) : ¬ (128 ≤ byt s (rpos s k) ∧ byt s (rpos s k) ≤ 191) := by
  intro h
  refine okS_at hok hk (step_none s _ (nR_lt.1 hk) (.inl ?_))
  unfold shN
  rw [if_neg (by omega), if_neg (by omega), if_neg (by omega), if_neg (by omega)]
theorem top2 (b : Nat) (h : b < 256) : ((b : Int) / 64 * 64 = 128) ↔ (128 ≤ b ∧ b ≤ 191) := by omega
def firstV : List Int := firstL
set_option maxRecDepth 100000 in
theorem Size_spec (p : Int) : Fun Tryd.prog 87 [.v (.int .i64 p)] (.v (.int .i64 (szP p : Nat))) := by
  refine Fun.enter (n := 12) (rs := [.tmp 2]) Tryd.func87 rfl Tryd.ntmps87 Tryd.results87 rfl (fun w F => ?_); refine TC.seq ?_; refine TC.region ?_; refine TL.run1 (pure_assign rfl) rfl ?_; refine TL.nil' ?_; refine TC.seq ?_; refine TC.block ?_; refine TC.seq ?_; refine TC.region ?_; refine TL.run1 (pure_move rfl) rfl ?_; refine TL.run1 (pure_lss rfl rfl) rfl ?_; refine TL.run1 (pure_assign rfl) rfl ?_; refine TL.nil' ?_; refine TC.condD rfl (fun hc3 => ?_) (fun hc3 => ?_)
  · try dsimp only at hc3
    refine TC.seq ?_; refine TC.region ?_; refine TL.run1 (pure_assign rfl) rfl ?_; refine TL.nil' ?_; refine TC.ret ?_; refine block_ret ?_; refine then_ret ?_
    exact ret_int rfl (by have hz := szP_cases p; omega)
  · try dsimp only at hc3
    refine TC.seq ?_; refine TC.region ?_; refine TL.run1 (pure_move rfl) rfl ?_; refine TL.run1 (pure_lss rfl rfl) rfl ?_; refine TL.run1 (pure_assign rfl) rfl ?_; refine TL.nil' ?_; refine TC.condD rfl (fun hc6 => ?_) (fun hc6 => ?_)
    · try dsimp only at hc6
      refine TC.seq ?_; refine TC.region ?_; refine TL.run1 (pure_assign rfl) rfl ?_; refine TL.nil' ?_; refine TC.ret ?_; refine block_ret ?_; refine then_ret ?_
      exact ret_int rfl (by have hz := szP_cases p; omega)
    · try dsimp only at hc6
      refine TC.seq ?_; refine TC.region ?_; refine TL.run1 (pure_move rfl) rfl ?_; refine TL.run1 (pure_lss rfl rfl) rfl ?_; refine TL.run1 (pure_assign rfl) rfl ?_; refine TL.nil' ?_; refine TC.condD rfl (fun hc9 => ?_) (fun hc9 => ?_)
      · try dsimp only at hc9
        refine TC.seq ?_; refine TC.region ?_; refine TL.run1 (pure_assign rfl) rfl ?_; refine TL.nil' ?_; refine TC.ret ?_; refine block_ret ?_; refine then_ret ?_
        exact ret_int rfl (by have hz := szP_cases p; omega)
      · try dsimp only at hc9
        refine TC.skip ?_; refine block_normal ?_; refine then_normal ?_; refine TC.seq ?_; refine TC.region ?_; refine TL.run1 (pure_assign rfl) rfl ?_; refine TL.nil' ?_; refine TC.ret ?_
        exact ret_int rfl (by have hz := szP_cases p; omega)
set_option maxRecDepth 100000 in
theorem IsPoint_spec (p : Int) (h0 : 0 ≤ p) (h1 : p ≤ 1114111) (h2 : ¬ (p ≥ 55296 ∧ p ≤ 57343)) : Fun Tryd.prog 86 [.v (.int .i64 p)] (.v (.bool true)) := by
  refine Fun.enter (n := 17) (rs := [.tmp 2]) Tryd.func86 rfl Tryd.ntmps86 Tryd.results86 rfl (fun w F => ?_); refine TC.seq ?_; refine TC.region ?_; refine TL.run1 (pure_assign rfl) rfl ?_; refine TL.nil' ?_; refine TC.regionCut [3, 4, 5, 6, 7, 8, 9, 10, 11, 12, 13, 14, 15, 16, 2] 2 (True) ?_ ?_
  · skip
    refine TL.run1 (pure_move rfl) rfl ?_; refine TL.run1 (pure_geq rfl rfl) rfl ?_; refine TL.run1 (pure_move rfl) rfl ?_; refine TL.splitP 5 rfl (fun hg5 => ?_) (fun hg5 => ?_)
    · try dsimp only at hg5
      refine TL.runG rfl rfl (pure_move rfl) rfl ?_; refine TL.runG rfl rfl (pure_leq rfl rfl) rfl ?_; refine TL.run1 (pure_pick_true rfl rfl) rfl ?_; refine TL.run1 (pure_move rfl) rfl ?_; refine TL.splitP 9 rfl (fun hg9 => ?_) (fun hg9 => ?_)
      · try dsimp only at hg9
        refine TL.runG rfl rfl (pure_move rfl) rfl ?_; refine TL.runG rfl rfl (pure_lss rfl rfl) rfl ?_; refine TL.runG rfl rfl (pure_move rfl) rfl ?_; refine TL.splitP 12 rfl (fun hg12 => ?_) (fun hg12 => ?_)
        · try dsimp only at hg12
          (iterate 2 refine TL.passG rfl rfl rfl rfl ?_); refine TL.runG rfl rfl (pure_pick_true rfl rfl) rfl ?_; refine TL.run1 (pure_pick_true rfl rfl) rfl ?_; refine TL.run1 (pure_assign rfl) rfl ?_; refine TL.cutEnd (by repeat (first | exact Same.refl _ _ | refine Same.put rfl ?_)) rfl ?_
          first | (simp only [decide_eq_true_eq, iff_true]; omega) | (simp; omega) | (simp_all; omega) | grind
        · try dsimp only at hg12
          refine TL.runG rfl rfl (pure_move rfl) rfl ?_; refine TL.runG rfl rfl (pure_gtr rfl rfl) rfl ?_; refine TL.runG rfl rfl (pure_pick_false rfl rfl) rfl ?_; refine TL.run1 (pure_pick_true rfl rfl) rfl ?_; refine TL.run1 (pure_assign rfl) rfl ?_; refine TL.cutEnd (by repeat (first | exact Same.refl _ _ | refine Same.put rfl ?_)) rfl ?_
          first | (simp only [decide_eq_true_eq, iff_true]; omega) | (simp; omega) | (simp_all; omega) | grind
      · try dsimp only at hg9
        (iterate 6 refine TL.passG rfl rfl rfl rfl ?_); refine TL.run1 (pure_pick_false rfl rfl) rfl ?_; refine TL.run1 (pure_assign rfl) rfl ?_; refine TL.cutEnd (by repeat (first | exact Same.refl _ _ | refine Same.put rfl ?_)) rfl ?_
        first | (simp only [decide_eq_true_eq, iff_true]; omega) | (simp; omega) | (simp_all; omega) | grind
    · try dsimp only at hg5
      (iterate 2 refine TL.passG rfl rfl rfl rfl ?_); refine TL.run1 (pure_pick_false rfl rfl) rfl ?_; refine TL.run1 (pure_move rfl) rfl ?_; (iterate 6 refine TL.passG rfl rfl rfl rfl ?_); refine TL.run1 (pure_pick_false rfl rfl) rfl ?_; refine TL.run1 (pure_assign rfl) rfl ?_; refine TL.cutEnd (by repeat (first | exact Same.refl _ _ | refine Same.put rfl ?_)) rfl ?_
      first | (simp only [decide_eq_true_eq, iff_true]; omega) | (simp; omega) | (simp_all; omega) | grind
  refine TC.ret ?_
  exact ret_bool rfl (by simp)
def firstD : List (List D) := encI firstL
set_option maxRecDepth 100000 in
theorem Encode_spec (p : Int) (h0 : 0 ≤ p) (h1 : p ≤ 1114111) : Fun Tryd.prog 75 [.v (.int .i64 p)] (.v (.string (encU p))) := by
  refine Fun.enterF (n := 44) (rs := [.tmp 2]) Tryd.func75 rfl Tryd.ntmps75 Tryd.results75 rfl (fun w F => ?_)
  have hz := szP_cases p
  have hd := dv_range h0 h1
  refine TC.seq ?_; refine TC.region ?_; refine TL.run1 (pure_assign rfl) rfl ?_; refine TL.nil' ?_; refine TC.seq ?_; refine TC.region ?_; refine TL.run1 (pure_move rfl) rfl ?_; refine TL.run1 (pure_call (Size_spec p) (.cons rfl .nil) Tryd.call87) rfl ?_; refine TL.run1 (pure_assign rfl) rfl ?_; refine TL.nil' ?_; (iterate 2 refine TC.seq ?_); refine TC.region ?_; refine TL.run1 (pure_move rfl) rfl ?_; refine TL.run1 (pure_eql rfl rfl) rfl ?_; refine TL.nil' ?_; refine TC.condD rfl (fun hc10 => ?_) (fun hc10 => ?_)
  · try dsimp only at hc10
    have hp : p < 128 := by omega
    refine TC.seq ?_; refine TC.region ?_; refine TL.run1 (pure_move rfl) rfl ?_; refine TL.run1 (pure_conv Tryd.underlying3 Tryd.underlying5 rfl (fit_u8 (by omega) (by omega))) rfl ?_; refine TL.run1 (pure_buildSlice (xs := [.tmp 12]) Ty.app120 (by decide) rfl rfl (.cons rfl (.one rfl) rfl .nil)) rfl ?_; refine TL.run1 (pure_conv_bytes (ns := [p]) Tryd.underlying120 Tryd.underlying5 Tryd.underlying9 rfl) rfl ?_; refine TL.run1 (pure_assign rfl) rfl ?_; refine TL.nil' ?_; refine TC.ret ?_; refine then_ret ?_
    have he : encU p = strOfNums [p] := by (unfold encU encN; rw [if_pos hp])
    rw [he]
    exact retF1 (.inl rfl) rfl (.same _)
  · try dsimp only at hc10
    have hp : ¬ p < 128 := by omega
    have hf := encF_range h0 h1 hp
    refine TC.skip' ?_; refine TC.seq ?_; refine TC.region ?_; refine TL.run1 (pure_move rfl) rfl ?_; refine TL.makeRow (n := (szP p)) (i := Tryd.t5) (z := .int .u8 0) Tryd.underlying120 (by kernel_rfl) rfl rfl rfl rfl rfl rfl rfl (by omega) (by decide) rfl (fun v16 hv16 => ?_); refine TL.run1 (pure_assign rfl) rfl ?_; refine TL.nil' ?_; (iterate 2 refine TC.seq ?_); refine TC.region ?_; refine TL.run1 (pure_move rfl) rfl ?_; refine TL.run1 (pure_sub rfl rfl (mkI64 (by omega) (by omega))) rfl ?_; refine TL.run1 (pure_assign rfl) rfl ?_; refine TL.nil' ?_; refine TC.block ?_; refine TC.loopX (X := Nat) (fun m => [(0, .v (.int .i64 (dv p m))), (3, .v (.int .i64 ((szP p) : Nat))), (4, .v v16), (5, .v (.int .i64 (((szP p) : Int) - 1 - m)))]) (fun m => [.row v16 5 1 (encB (encR p (szP p) m))]) (fun m => (m + 1 ≤ (szP p))) (fun m => (szP p) - m) (0) ⟨by (try dsimp only); rw [show (((szP p) : Int) - 1 - ((0 : Nat) : Int)) = ((szP p) : Int) - 1 by omega]; repeat (first | exact Agree.nil | refine Agree.cons rfl ?_), by (rw [encR_zero]); repeat (first | exact List.nil_sublist _ | exact List.Sublist.refl _ | apply List.Sublist.cons_cons | apply List.Sublist.cons)⟩ ?_ ?_
    · skip
      exact (by omega : 0 + 1 ≤ (szP p))
    intro m
    intro h2
    show TC _ _ _ (Env.of [(0, .v (.int .i64 (dv p m))), (3, .v (.int .i64 ((szP p) : Nat))), (4, .v v16), (5, .v (.int .i64 (((szP p) : Int) - 1 - m)))]) [.row v16 5 1 (encB (encR p (szP p) m))]
    (iterate 2 refine TC.seq ?_); refine TC.region ?_; refine TL.run1 (pure_move rfl) rfl ?_; refine TL.run1 (pure_gtr rfl rfl) rfl ?_; refine TL.nil' ?_; refine TC.condD rfl (fun hc20 => ?_) (fun hc20 => ?_)
    · try dsimp only at hc20
      refine TC.skip' ?_; refine TC.seq ?_; refine TC.block ?_; refine TC.seq ?_
      have hdm := hd m
      have hkl : (encB (encR p (szP p) m)).length = (szP p) := by rw [encB_len, encR_len]
      have hrow := encB_get (encR p (szP p) m) (((szP p) : Int) - 1 - m) (by omega) (by rw [encR_len]; omega)
      refine TC.region ?_; (iterate 3 refine TL.run1 (pure_move rfl) rfl ?_); refine TL.run1 (pure_rem rfl rfl (by omega) (by omega)) rfl ?_; refine TL.run1 (pure_add rfl rfl (mkI64 (by omega) (by omega))) rfl ?_; refine TL.run1 (pure_conv Tryd.underlying3 Tryd.underlying5 rfl (fit_u8 (by omega) (by omega))) rfl ?_; refine TL.indexRow Ty.sl120 rfl rfl (by repeat (first | exact List.Mem.head _ | apply List.Mem.tail)) (by omega) (by omega) rfl (fun g29 hg29 => ?_); refine TL.storeRow (es := 1) (i := ((((szP p) : Int) - 1 - m).toNat)) (o := 0) rfl hg29 (by omega) rfl (.one rfl) Tryd.sizeOf5 rfl (by repeat (first | exact UpdR.here _ | apply UpdR.there)) hrow (by repeat (first | exact PutR.nil _ | apply PutR.here | apply PutR.skip)) ?_; refine TL.nil' ?_
      have hdm := hd m
      refine TC.region ?_; refine TL.run1 (pure_move rfl) rfl ?_; refine TL.run1 (pure_quo rfl rfl (by omega) (by omega) (by omega)) rfl ?_; refine TL.run1 (pure_assign rfl) rfl ?_; refine TL.nil ?_; refine block_normal ?_; refine then_normal ?_; refine TC.region ?_; refine TL.run1 (pure_move rfl) rfl ?_; refine TL.run1 (pure_sub rfl rfl (mkI64 (by omega) (by omega))) rfl ?_; refine TL.run1 (pure_assign rfl) rfl ?_; refine TL.nil ?_; refine loop_next (m + 1) ⟨by ((try dsimp only); rw [show (((szP p) : Int) - 1 - ((m + 1 : Nat) : Int)) = ((szP p) : Int) - 1 - m - 1 by omega]; repeat (first | exact Agree.nil | refine Agree.cons rfl ?_)), by (try dsimp only); rw [← encR_set p (szP p) m (by omega), ← encB_set, show (szP p) - 1 - m = (((szP p) : Int) - 1 - m).toNat by omega]; repeat (first | exact List.nil_sublist _ | exact List.Sublist.refl _ | apply List.Sublist.cons_cons | apply List.Sublist.cons)⟩ (show m + 1 + 1 ≤ (szP p) by omega) (by omega)
    · try dsimp only at hc20
      refine TC.exit ?_; refine then_exit ?_; refine loop_exit ?_; refine block_here ?_; refine then_normal ?_; refine TC.seq ?_; refine TC.region ?_; refine TL.run1 (pure_buildSlice (xs := [.const (.int .i64 0), .const (.int .i64 0), .const (.int .i64 192), .const (.int .i64 224), .const (.int .i64 240)]) Ty.app35 (by decide) rfl rfl (.cons rfl (.one rfl) rfl (.cons rfl (.one rfl) rfl (.cons rfl (.one rfl) rfl (.cons rfl (.one rfl) rfl (.cons rfl (.one rfl) rfl .nil)))))) rfl ?_; refine TL.run1 (pure_assign rfl) rfl ?_; refine TL.nil' ?_; refine TC.seq ?_
      have hm : m + 1 = szP p := by omega
      have hkl : (encB (encR p (szP p) m)).length = (szP p) := by rw [encB_len, encR_len]
      have hrow := encB_get (encR p (szP p) m) 0 (by omega) (by rw [encR_len]; omega)
      have hrf : firstD[(((szP p) : Nat) : Int).toNat]? = some [.v (.int .i64 (iAt firstL (szP p)))] := encI_get firstL (szP p) (by omega) (by have : firstL.length = 5 := rfl; omega)
      have hmm : m = (szP p) - 1 := by omega
      rw [← hmm] at hf
      have hdm := hd m
      refine TC.region ?_; (iterate 3 refine TL.run1 (pure_move rfl) rfl ?_); refine TL.run1 (pure_indexAddr Ty.sl35 rfl rfl (by omega) hrf (List.cons_ne_nil _ _)) rfl ?_; refine TL.run1 (pure_load1 Ty.one3 rfl) rfl ?_; refine TL.run1 (pure_move rfl) rfl ?_; refine TL.run1 (pure_add rfl rfl (mkI64 (by omega) (by omega))) rfl ?_; refine TL.run1 (pure_conv Tryd.underlying3 Tryd.underlying5 rfl (fit_u8 (by omega) (by omega))) rfl ?_; refine TL.indexRow Ty.sl120 rfl rfl (by repeat (first | exact List.Mem.head _ | apply List.Mem.tail)) (by omega) (by omega) rfl (fun g41 hg41 => ?_); refine TL.storeRow (es := 1) (i := ((0 : Int).toNat)) (o := 0) rfl hg41 (by omega) rfl (.one rfl) Tryd.sizeOf5 rfl (by repeat (first | exact UpdR.here _ | apply UpdR.there)) hrow (by repeat (first | exact PutR.nil _ | apply PutR.here | apply PutR.skip)) ?_; refine TL.nil' ?_; refine TC.seq ?_
      have hen : (encB (encR p (szP p) m)).set ((0 : Int).toNat) [.v (.int .u8 (iAt firstL (szP p) + dv p m))] = encB (encN p) := by (unfold encN; rw [if_neg hp, ← hmm]; exact encB_set _ _ _)
      refine TC.frz 4 [] (List.nil_sublist _) rfl (.rowS (xs := encB (encN p)) (gone_nil (by rw [← hen]; repeat (first | exact List.Mem.head _ | apply List.Mem.tail))) (by decide) (by intro x hx; obtain ⟨y, _, rfl⟩ := List.mem_map.1 hx; rfl)) ?_; refine TC.region ?_; refine TL.run1 (pure_move rfl) rfl ?_; refine TL.run1 (pure_conv_bytes (ns := encN p) Tryd.underlying120 Tryd.underlying5 Tryd.underlying9 rfl) rfl ?_; refine TL.run1 (pure_assign rfl) rfl ?_; refine TL.nil' ?_; refine TC.ret ?_
      exact retF1 (.inl rfl) rfl (.same _)
set_option maxRecDepth 100000 in
theorem Decode_spec (u : ByteArray) (h0 : 0 < u.size) (hb : ¬ BadAt u 0) (hs : u.size ≤ 1000000000) : Fun Tryd.prog 70 [.v (.string u)] (.tup [.v (.int .i64 ((Utf8.decode u 0).1 : Nat)), .v (.int .i64 ((Utf8.decode u 0).2 : Nat))]) := by
  refine Fun.enter (n := 83) (rs := [.tmp 2, .tmp 3]) Tryd.func70 rfl Tryd.ntmps70 Tryd.results70 rfl (fun w F => ?_)
  obtain ⟨n, hn, n1, n4, hin, hct, hpb, hd1, hd2⟩ := dec_ok h0 hb
  have hb0 := byt_lt u 0
  rw [hd1, hd2]
  have hld := sh_lead (b := (byt u 0 : Int)) (by omega) hn (by omega)
  obtain ⟨p0, p1, p2⟩ := pt_ok n1 n4 hpb
  refine TC.seq ?_; refine TC.region ?_; (iterate 2 refine TL.run1 (pure_assign rfl) rfl ?_); refine TL.nil' ?_; (iterate 2 refine TC.seq ?_); refine TC.region ?_; refine TL.run1 (pure_move rfl) rfl ?_; refine TL.run1 (pure_len_str Tryd.underlying9 rfl) rfl ?_; refine TL.run1 (pure_eql rfl rfl) rfl ?_; refine TL.nil' ?_; refine TC.condD rfl (fun hc11 => ?_) (fun hc11 => ?_)
  · try dsimp only at hc11
    exfalso; omega
  · try dsimp only at hc11
    refine TC.skip' ?_; refine TC.seq ?_; refine TC.region ?_; (iterate 2 refine TL.run1 (pure_assign rfl) rfl ?_); refine TL.nil' ?_; refine TC.seq ?_; refine TC.region ?_; refine TL.run1 (pure_move rfl) rfl ?_; refine TL.run1 (pure_index_byt (j := 0) Tryd.underlying9 rfl rfl rfl h0) rfl ?_; refine TL.run1 (pure_conv Tryd.underlying5 Tryd.underlying3 rfl (fit_i64 (by omega) (by omega))) rfl ?_; refine TL.run1 (pure_assign rfl) rfl ?_; refine TL.nil' ?_; refine TC.seq ?_; refine TC.block ?_; refine TC.seq ?_; refine TC.region ?_; refine TL.run1 (pure_move rfl) rfl ?_; refine TL.run1 (pure_lss rfl rfl) rfl ?_; refine TL.run1 (pure_assign rfl) rfl ?_; refine TL.nil' ?_; refine TC.condD rfl (fun hc15 => ?_) (fun hc15 => ?_)
    · try dsimp only at hc15
      refine TC.seq ?_; refine TC.region ?_; refine TL.run1 (pure_move rfl) rfl ?_; (iterate 2 refine TL.run1 (pure_assign rfl) rfl ?_); refine TL.nil' ?_; refine TC.ret ?_; refine block_ret ?_; refine then_ret ?_
      have hn1 : n = 1 := by omega
      subst hn1
      rw [show accR u 0 1 = byt u 0 by (rw [accR1]; omega)]
      exact ret2 (.inl rfl) rfl rfl rfl
    · try dsimp only at hc15
      refine TC.regionCut [20, 21, 22, 23, 24, 25, 19] 19 (192 ≤ (byt u 0 : Int) ∧ (byt u 0 : Int) < 224) ?_ ?_
      · skip
        refine TL.run1 (pure_move rfl) rfl ?_; refine TL.run1 (pure_geq rfl rfl) rfl ?_; refine TL.run1 (pure_move rfl) rfl ?_; refine TL.splitP 22 rfl (fun hg22 => ?_) (fun hg22 => ?_)
        · try dsimp only at hg22
          refine TL.runG rfl rfl (pure_move rfl) rfl ?_; refine TL.runG rfl rfl (pure_lss rfl rfl) rfl ?_; refine TL.run1 (pure_pick_true rfl rfl) rfl ?_; refine TL.run1 (pure_assign rfl) rfl ?_; refine TL.cutEnd (by repeat (first | exact Same.refl _ _ | refine Same.put rfl ?_)) rfl ?_
          first | (simp only [decide_eq_true_eq, Bool.false_eq_true, false_iff, true_iff, iff_true, iff_false, Bool.not_eq_true]; omega) | (simp_all; done) | (simp_all; omega) | grind
        · try dsimp only at hg22
          (iterate 2 refine TL.passG rfl rfl rfl rfl ?_); refine TL.run1 (pure_pick_false rfl rfl) rfl ?_; refine TL.run1 (pure_assign rfl) rfl ?_; refine TL.cutEnd (by repeat (first | exact Same.refl _ _ | refine Same.put rfl ?_)) rfl ?_
          first | (simp only [decide_eq_true_eq, Bool.false_eq_true, false_iff, true_iff, iff_true, iff_false, Bool.not_eq_true]; omega) | (simp_all; done) | (simp_all; omega) | grind
      refine TC.condD rfl (fun hc19 => ?_) (fun hc19 => ?_)
      · try dsimp only at hc19
        refine TC.region ?_; refine TL.run1 (pure_move rfl) rfl ?_; refine TL.run1 (pure_sub rfl rfl (mkI64 (by omega) (by omega))) rfl ?_; (iterate 2 refine TL.run1 (pure_assign rfl) rfl ?_); refine TL.nil ?_; refine block_normal ?_; refine then_normal ?_; (iterate 2 refine TC.seq ?_)
        have hn2 : n = 2 := by omega
        have hnc : (2 : Int) = (n : Int) := by omega
        have hac : (byt u 0 : Int) - 192 = accR u 0 1 := by (rw [accR1]; omega)
        refine TC.region ?_; refine TL.run1 (pure_move rfl) rfl ?_; refine TL.run1 (pure_len_str Tryd.underlying9 rfl) rfl ?_; refine TL.run1 (pure_move rfl) rfl ?_; refine TL.run1 (pure_lss rfl rfl) rfl ?_; refine TL.nil' ?_; refine TC.condD rfl (fun hc49 => ?_) (fun hc49 => ?_)
        · try dsimp only at hc49
          exfalso; omega
        · try dsimp only at hc49
          refine TC.skip' ?_; (iterate 2 refine TC.seq ?_); refine TC.region ?_; refine TL.run1 (pure_assign rfl) rfl ?_; refine TL.nil' ?_; refine TC.block ?_; refine TC.loopX (X := Nat) (fun i => [(0, .v (.string u)), (4, .v (.int .i64 (n : Int))), (5, .v (.int .i64 (accR u 0 i))), (7, .v (.int .i64 i))]) (fun i => []) (fun i => (1 ≤ i) ∧ (i ≤ n)) (fun i => n - i) (1) ⟨by (try dsimp only); rw [hnc, hac]; repeat (first | exact Agree.nil | refine Agree.cons rfl ?_), by skip; repeat (first | exact List.nil_sublist _ | exact List.Sublist.refl _ | apply List.Sublist.cons_cons | apply List.Sublist.cons)⟩ ?_ ?_
          · skip
            exact ⟨by omega, by omega⟩
          intro i
          rintro ⟨i1, i2⟩
          show TC _ _ _ (Env.of [(0, .v (.string u)), (4, .v (.int .i64 (n : Int))), (5, .v (.int .i64 (accR u 0 i))), (7, .v (.int .i64 i))]) []
          (iterate 2 refine TC.seq ?_); refine TC.region ?_; (iterate 2 refine TL.run1 (pure_move rfl) rfl ?_); refine TL.run1 (pure_lss rfl rfl) rfl ?_; refine TL.nil' ?_; refine TC.condD rfl (fun hc52 => ?_) (fun hc52 => ?_)
          · try dsimp only at hc52
            refine TC.skip' ?_; refine TC.seq ?_; refine TC.block ?_; refine TC.seq ?_
            have hci := hct i i1 (by omega)
            rw [Nat.zero_add] at hci
            have hai := accR_pre hn i1 i2 hct
            have hst := accR_step u 0 i i1
            rw [Nat.zero_add] at hst
            refine TC.region ?_; (iterate 2 refine TL.run1 (pure_move rfl) rfl ?_); refine TL.run1 (pure_index_byt (j := i) Tryd.underlying9 rfl rfl rfl (by omega)) rfl ?_; refine TL.run1 (pure_conv Tryd.underlying5 Tryd.underlying3 rfl (fit_i64 (by omega) (by omega))) rfl ?_; refine TL.run1 (pure_assign rfl) rfl ?_; refine TL.nil' ?_; refine TC.seq ?_; refine TC.regionCut [59, 60, 61, 62, 63, 64] 64 (False) ?_ ?_
            · skip
              refine TL.run1 (pure_move rfl) rfl ?_; refine TL.run1 (pure_lss rfl rfl) rfl ?_; refine TL.run1 (pure_move rfl) rfl ?_; refine TL.splitP 61 rfl (fun hg61 => ?_) (fun hg61 => ?_)
              · try dsimp only at hg61
                (iterate 2 refine TL.passG rfl rfl rfl rfl ?_); refine TL.run1 (pure_pick_true rfl rfl) rfl ?_; refine TL.cutEnd (by repeat (first | exact Same.refl _ _ | refine Same.put rfl ?_)) rfl ?_
                simp only [decide_eq_true_eq, iff_false]; omega
              · try dsimp only at hg61
                refine TL.runG rfl rfl (pure_move rfl) rfl ?_; refine TL.runG rfl rfl (pure_gtr rfl rfl) rfl ?_; refine TL.run1 (pure_pick_false rfl rfl) rfl ?_; refine TL.cutEnd (by repeat (first | exact Same.refl _ _ | refine Same.put rfl ?_)) rfl ?_
                simp only [decide_eq_true_eq, iff_false]; omega
            refine TC.condD rfl (fun hc64 => ?_) (fun hc64 => ?_)
            · try dsimp only at hc64
              all_goals exact hc64.elim
            · try dsimp only at hc64
              refine TC.skip' ?_; refine TC.region ?_; refine TL.run1 (pure_move rfl) rfl ?_; refine TL.run1 (pure_mul rfl rfl (mkI64 (by omega) (by omega))) rfl ?_; refine TL.run1 (pure_move rfl) rfl ?_; refine TL.run1 (pure_add rfl rfl (mkI64 (by omega) (by omega))) rfl ?_; refine TL.run1 (pure_sub rfl rfl (mkI64 (by omega) (by omega))) rfl ?_; refine TL.run1 (pure_assign rfl) rfl ?_; refine TL.nil ?_; refine block_normal ?_; refine then_normal ?_; refine TC.region ?_; refine TL.run1 (pure_move rfl) rfl ?_; refine TL.run1 (pure_add rfl rfl (mkI64 (by omega) (by omega))) rfl ?_; refine TL.run1 (pure_assign rfl) rfl ?_; refine TL.nil ?_; refine loop_next (i + 1) ⟨by ((try dsimp only); rw [hst, show (((i + 1 : Nat)) : Int) = (i : Int) + 1 by omega]; repeat (first | exact Agree.nil | refine Agree.cons rfl ?_)), by repeat (first | exact List.nil_sublist _ | exact List.Sublist.refl _ | apply List.Sublist.cons_cons | apply List.Sublist.cons)⟩ ⟨by omega, by omega⟩ (by omega)
          · try dsimp only at hc52
            refine TC.exit ?_; refine then_exit ?_; refine loop_exit ?_; refine block_here ?_; refine then_normal ?_; refine TC.seq ?_
            have hie : i = n := by omega
            subst hie
            have hen := enc_full hn n1 hin hct hpb
            refine TC.drawCut [70, 71, 72, 73, 74, 75, 76, 77, 78, 79, 80] 80 (False) Ty.follows (by kernel_rfl) ?_ ?_
            · skip
              refine TD.run1 (pure_move rfl) rfl ?_; refine TD.run1 (pure_call (IsPoint_spec (accR u 0 i) p0 p1 p2) (.cons rfl .nil) Tryd.call86) rfl ?_; refine TD.run1 (pure_not rfl) rfl ?_; refine TD.run1 (pure_move rfl) rfl ?_; refine TD.split 73 rfl (fun hg73 => ?_) (fun hg73 => ?_)
              · try dsimp only at hg73
                (iterate 6 refine TD.passG rfl rfl rfl rfl ?_); refine TD.run1 (pure_pick_true rfl rfl) rfl ?_; refine TD.cutEnd (by repeat (first | exact Same.refl _ _ | refine Same.put rfl ?_)) rfl ?_
                first | (exact absurd hg73 (by decide)) | contradiction | (rw [hen]; simp)
              · try dsimp only at hg73
                refine TD.runG rfl rfl (pure_move rfl) rfl ?_; refine TD.runG rfl rfl (pure_call (Encode_spec (accR u 0 i) p0 p1) (.cons rfl .nil) Tryd.call75) rfl ?_; (iterate 2 refine TD.runG rfl rfl (pure_move rfl) rfl ?_); refine TD.runG rfl rfl (pure_slice_str (l := 0) (h := i) Tryd.underlying9 rfl rfl rfl (by omega) (by omega)) rfl ?_; refine TD.runG rfl rfl (pure_neq_string rfl rfl) rfl ?_; refine TD.run1 (pure_pick_false rfl rfl) rfl ?_; refine TD.cutEnd (by repeat (first | exact Same.refl _ _ | refine Same.put rfl ?_)) rfl ?_
                first | (exact absurd hg73 (by decide)) | contradiction | (rw [hen]; simp)
            refine TC.condD rfl (fun hc80 => ?_) (fun hc80 => ?_)
            · try dsimp only at hc80
              all_goals exact hc80.elim
            · try dsimp only at hc80
              refine TC.skip' ?_; refine TC.seq ?_; refine TC.region ?_; (iterate 2 refine TL.run1 (pure_move rfl) rfl ?_); (iterate 2 refine TL.run1 (pure_assign rfl) rfl ?_); refine TL.nil' ?_; refine TC.ret ?_
              exact ret2 (.inl rfl) rfl rfl rfl
      · try dsimp only at hc19
        refine TC.regionCut [29, 30, 31, 32, 33, 34, 28] 28 (224 ≤ (byt u 0 : Int) ∧ (byt u 0 : Int) < 240) ?_ ?_
        · skip
          refine TL.run1 (pure_move rfl) rfl ?_; refine TL.run1 (pure_geq rfl rfl) rfl ?_; refine TL.run1 (pure_move rfl) rfl ?_; refine TL.splitP 31 rfl (fun hg31 => ?_) (fun hg31 => ?_)
          · try dsimp only at hg31
            refine TL.runG rfl rfl (pure_move rfl) rfl ?_; refine TL.runG rfl rfl (pure_lss rfl rfl) rfl ?_; refine TL.run1 (pure_pick_true rfl rfl) rfl ?_; refine TL.run1 (pure_assign rfl) rfl ?_; refine TL.cutEnd (by repeat (first | exact Same.refl _ _ | refine Same.put rfl ?_)) rfl ?_
            first | (simp only [decide_eq_true_eq, Bool.false_eq_true, false_iff, true_iff, iff_true, iff_false, Bool.not_eq_true]; omega) | (simp_all; done) | (simp_all; omega) | grind
          · try dsimp only at hg31
            (iterate 2 refine TL.passG rfl rfl rfl rfl ?_); refine TL.run1 (pure_pick_false rfl rfl) rfl ?_; refine TL.run1 (pure_assign rfl) rfl ?_; refine TL.cutEnd (by repeat (first | exact Same.refl _ _ | refine Same.put rfl ?_)) rfl ?_
            first | (simp only [decide_eq_true_eq, Bool.false_eq_true, false_iff, true_iff, iff_true, iff_false, Bool.not_eq_true]; omega) | (simp_all; done) | (simp_all; omega) | grind
        refine TC.condD rfl (fun hc28 => ?_) (fun hc28 => ?_)
        · try dsimp only at hc28
          refine TC.region ?_; refine TL.run1 (pure_move rfl) rfl ?_; refine TL.run1 (pure_sub rfl rfl (mkI64 (by omega) (by omega))) rfl ?_; (iterate 2 refine TL.run1 (pure_assign rfl) rfl ?_); refine TL.nil ?_; refine block_normal ?_; refine then_normal ?_; (iterate 2 refine TC.seq ?_)
          have hn2 : n = 3 := by omega
          have hnc : (3 : Int) = (n : Int) := by omega
          have hac : (byt u 0 : Int) - 224 = accR u 0 1 := by (rw [accR1]; omega)
          refine TC.region ?_; refine TL.run1 (pure_move rfl) rfl ?_; refine TL.run1 (pure_len_str Tryd.underlying9 rfl) rfl ?_; refine TL.run1 (pure_move rfl) rfl ?_; refine TL.run1 (pure_lss rfl rfl) rfl ?_; refine TL.nil' ?_; refine TC.condD rfl (fun hc49 => ?_) (fun hc49 => ?_)
          · try dsimp only at hc49
            exfalso; omega
          · try dsimp only at hc49
            refine TC.skip' ?_; (iterate 2 refine TC.seq ?_); refine TC.region ?_; refine TL.run1 (pure_assign rfl) rfl ?_; refine TL.nil' ?_; refine TC.block ?_; refine TC.loopX (X := Nat) (fun i => [(0, .v (.string u)), (4, .v (.int .i64 (n : Int))), (5, .v (.int .i64 (accR u 0 i))), (7, .v (.int .i64 i))]) (fun i => []) (fun i => (1 ≤ i) ∧ (i ≤ n)) (fun i => n - i) (1) ⟨by (try dsimp only); rw [hnc, hac]; repeat (first | exact Agree.nil | refine Agree.cons rfl ?_), by skip; repeat (first | exact List.nil_sublist _ | exact List.Sublist.refl _ | apply List.Sublist.cons_cons | apply List.Sublist.cons)⟩ ?_ ?_
            · skip
              exact ⟨by omega, by omega⟩
            intro i
            rintro ⟨i1, i2⟩
            show TC _ _ _ (Env.of [(0, .v (.string u)), (4, .v (.int .i64 (n : Int))), (5, .v (.int .i64 (accR u 0 i))), (7, .v (.int .i64 i))]) []
            (iterate 2 refine TC.seq ?_); refine TC.region ?_; (iterate 2 refine TL.run1 (pure_move rfl) rfl ?_); refine TL.run1 (pure_lss rfl rfl) rfl ?_; refine TL.nil' ?_; refine TC.condD rfl (fun hc52 => ?_) (fun hc52 => ?_)
            · try dsimp only at hc52
              refine TC.skip' ?_; refine TC.seq ?_; refine TC.block ?_; refine TC.seq ?_
              have hci := hct i i1 (by omega)
              rw [Nat.zero_add] at hci
              have hai := accR_pre hn i1 i2 hct
              have hst := accR_step u 0 i i1
              rw [Nat.zero_add] at hst
              refine TC.region ?_; (iterate 2 refine TL.run1 (pure_move rfl) rfl ?_); refine TL.run1 (pure_index_byt (j := i) Tryd.underlying9 rfl rfl rfl (by omega)) rfl ?_; refine TL.run1 (pure_conv Tryd.underlying5 Tryd.underlying3 rfl (fit_i64 (by omega) (by omega))) rfl ?_; refine TL.run1 (pure_assign rfl) rfl ?_; refine TL.nil' ?_; refine TC.seq ?_; refine TC.regionCut [59, 60, 61, 62, 63, 64] 64 (False) ?_ ?_
              · skip
                refine TL.run1 (pure_move rfl) rfl ?_; refine TL.run1 (pure_lss rfl rfl) rfl ?_; refine TL.run1 (pure_move rfl) rfl ?_; refine TL.splitP 61 rfl (fun hg61 => ?_) (fun hg61 => ?_)
                · try dsimp only at hg61
                  (iterate 2 refine TL.passG rfl rfl rfl rfl ?_); refine TL.run1 (pure_pick_true rfl rfl) rfl ?_; refine TL.cutEnd (by repeat (first | exact Same.refl _ _ | refine Same.put rfl ?_)) rfl ?_
                  simp only [decide_eq_true_eq, iff_false]; omega
                · try dsimp only at hg61
                  refine TL.runG rfl rfl (pure_move rfl) rfl ?_; refine TL.runG rfl rfl (pure_gtr rfl rfl) rfl ?_; refine TL.run1 (pure_pick_false rfl rfl) rfl ?_; refine TL.cutEnd (by repeat (first | exact Same.refl _ _ | refine Same.put rfl ?_)) rfl ?_
                  simp only [decide_eq_true_eq, iff_false]; omega
              refine TC.condD rfl (fun hc64 => ?_) (fun hc64 => ?_)
              · try dsimp only at hc64
                all_goals exact hc64.elim
              · try dsimp only at hc64
                refine TC.skip' ?_; refine TC.region ?_; refine TL.run1 (pure_move rfl) rfl ?_; refine TL.run1 (pure_mul rfl rfl (mkI64 (by omega) (by omega))) rfl ?_; refine TL.run1 (pure_move rfl) rfl ?_; refine TL.run1 (pure_add rfl rfl (mkI64 (by omega) (by omega))) rfl ?_; refine TL.run1 (pure_sub rfl rfl (mkI64 (by omega) (by omega))) rfl ?_; refine TL.run1 (pure_assign rfl) rfl ?_; refine TL.nil ?_; refine block_normal ?_; refine then_normal ?_; refine TC.region ?_; refine TL.run1 (pure_move rfl) rfl ?_; refine TL.run1 (pure_add rfl rfl (mkI64 (by omega) (by omega))) rfl ?_; refine TL.run1 (pure_assign rfl) rfl ?_; refine TL.nil ?_; refine loop_next (i + 1) ⟨by ((try dsimp only); rw [hst, show (((i + 1 : Nat)) : Int) = (i : Int) + 1 by omega]; repeat (first | exact Agree.nil | refine Agree.cons rfl ?_)), by repeat (first | exact List.nil_sublist _ | exact List.Sublist.refl _ | apply List.Sublist.cons_cons | apply List.Sublist.cons)⟩ ⟨by omega, by omega⟩ (by omega)
            · try dsimp only at hc52
              refine TC.exit ?_; refine then_exit ?_; refine loop_exit ?_; refine block_here ?_; refine then_normal ?_; refine TC.seq ?_
              have hie : i = n := by omega
              subst hie
              have hen := enc_full hn n1 hin hct hpb
              refine TC.drawCut [70, 71, 72, 73, 74, 75, 76, 77, 78, 79, 80] 80 (False) Ty.follows (by kernel_rfl) ?_ ?_
              · skip
                refine TD.run1 (pure_move rfl) rfl ?_; refine TD.run1 (pure_call (IsPoint_spec (accR u 0 i) p0 p1 p2) (.cons rfl .nil) Tryd.call86) rfl ?_; refine TD.run1 (pure_not rfl) rfl ?_; refine TD.run1 (pure_move rfl) rfl ?_; refine TD.split 73 rfl (fun hg73 => ?_) (fun hg73 => ?_)
                · try dsimp only at hg73
                  (iterate 6 refine TD.passG rfl rfl rfl rfl ?_); refine TD.run1 (pure_pick_true rfl rfl) rfl ?_; refine TD.cutEnd (by repeat (first | exact Same.refl _ _ | refine Same.put rfl ?_)) rfl ?_
                  first | (exact absurd hg73 (by decide)) | contradiction | (rw [hen]; simp)
                · try dsimp only at hg73
                  refine TD.runG rfl rfl (pure_move rfl) rfl ?_; refine TD.runG rfl rfl (pure_call (Encode_spec (accR u 0 i) p0 p1) (.cons rfl .nil) Tryd.call75) rfl ?_; (iterate 2 refine TD.runG rfl rfl (pure_move rfl) rfl ?_); refine TD.runG rfl rfl (pure_slice_str (l := 0) (h := i) Tryd.underlying9 rfl rfl rfl (by omega) (by omega)) rfl ?_; refine TD.runG rfl rfl (pure_neq_string rfl rfl) rfl ?_; refine TD.run1 (pure_pick_false rfl rfl) rfl ?_; refine TD.cutEnd (by repeat (first | exact Same.refl _ _ | refine Same.put rfl ?_)) rfl ?_
                  first | (exact absurd hg73 (by decide)) | contradiction | (rw [hen]; simp)
              refine TC.condD rfl (fun hc80 => ?_) (fun hc80 => ?_)
              · try dsimp only at hc80
                all_goals exact hc80.elim
              · try dsimp only at hc80
                refine TC.skip' ?_; refine TC.seq ?_; refine TC.region ?_; (iterate 2 refine TL.run1 (pure_move rfl) rfl ?_); (iterate 2 refine TL.run1 (pure_assign rfl) rfl ?_); refine TL.nil' ?_; refine TC.ret ?_
                exact ret2 (.inl rfl) rfl rfl rfl
        · try dsimp only at hc28
          refine TC.regionCut [38, 39, 40, 41, 42, 43, 37] 37 (240 ≤ (byt u 0 : Int) ∧ (byt u 0 : Int) < 248) ?_ ?_
          · skip
            refine TL.run1 (pure_move rfl) rfl ?_; refine TL.run1 (pure_geq rfl rfl) rfl ?_; refine TL.run1 (pure_move rfl) rfl ?_; refine TL.splitP 40 rfl (fun hg40 => ?_) (fun hg40 => ?_)
            · try dsimp only at hg40
              refine TL.runG rfl rfl (pure_move rfl) rfl ?_; refine TL.runG rfl rfl (pure_lss rfl rfl) rfl ?_; refine TL.run1 (pure_pick_true rfl rfl) rfl ?_; refine TL.run1 (pure_assign rfl) rfl ?_; refine TL.cutEnd (by repeat (first | exact Same.refl _ _ | refine Same.put rfl ?_)) rfl ?_
              first | (simp only [decide_eq_true_eq, Bool.false_eq_true, false_iff, true_iff, iff_true, iff_false, Bool.not_eq_true]; omega) | (simp_all; done) | (simp_all; omega) | grind
            · try dsimp only at hg40
              (iterate 2 refine TL.passG rfl rfl rfl rfl ?_); refine TL.run1 (pure_pick_false rfl rfl) rfl ?_; refine TL.run1 (pure_assign rfl) rfl ?_; refine TL.cutEnd (by repeat (first | exact Same.refl _ _ | refine Same.put rfl ?_)) rfl ?_
              first | (simp only [decide_eq_true_eq, Bool.false_eq_true, false_iff, true_iff, iff_true, iff_false, Bool.not_eq_true]; omega) | (simp_all; done) | (simp_all; omega) | grind
          refine TC.condD rfl (fun hc37 => ?_) (fun hc37 => ?_)
          · try dsimp only at hc37
            refine TC.region ?_; refine TL.run1 (pure_move rfl) rfl ?_; refine TL.run1 (pure_sub rfl rfl (mkI64 (by omega) (by omega))) rfl ?_; (iterate 2 refine TL.run1 (pure_assign rfl) rfl ?_); refine TL.nil ?_; refine block_normal ?_; refine then_normal ?_; (iterate 2 refine TC.seq ?_)
            have hn2 : n = 4 := by omega
            have hnc : (4 : Int) = (n : Int) := by omega
            have hac : (byt u 0 : Int) - 240 = accR u 0 1 := by (rw [accR1]; omega)
            refine TC.region ?_; refine TL.run1 (pure_move rfl) rfl ?_; refine TL.run1 (pure_len_str Tryd.underlying9 rfl) rfl ?_; refine TL.run1 (pure_move rfl) rfl ?_; refine TL.run1 (pure_lss rfl rfl) rfl ?_; refine TL.nil' ?_; refine TC.condD rfl (fun hc49 => ?_) (fun hc49 => ?_)
            · try dsimp only at hc49
              exfalso; omega
            · try dsimp only at hc49
              refine TC.skip' ?_; (iterate 2 refine TC.seq ?_); refine TC.region ?_; refine TL.run1 (pure_assign rfl) rfl ?_; refine TL.nil' ?_; refine TC.block ?_; refine TC.loopX (X := Nat) (fun i => [(0, .v (.string u)), (4, .v (.int .i64 (n : Int))), (5, .v (.int .i64 (accR u 0 i))), (7, .v (.int .i64 i))]) (fun i => []) (fun i => (1 ≤ i) ∧ (i ≤ n)) (fun i => n - i) (1) ⟨by (try dsimp only); rw [hnc, hac]; repeat (first | exact Agree.nil | refine Agree.cons rfl ?_), by skip; repeat (first | exact List.nil_sublist _ | exact List.Sublist.refl _ | apply List.Sublist.cons_cons | apply List.Sublist.cons)⟩ ?_ ?_
              · skip
                exact ⟨by omega, by omega⟩
              intro i
              rintro ⟨i1, i2⟩
              show TC _ _ _ (Env.of [(0, .v (.string u)), (4, .v (.int .i64 (n : Int))), (5, .v (.int .i64 (accR u 0 i))), (7, .v (.int .i64 i))]) []
              (iterate 2 refine TC.seq ?_); refine TC.region ?_; (iterate 2 refine TL.run1 (pure_move rfl) rfl ?_); refine TL.run1 (pure_lss rfl rfl) rfl ?_; refine TL.nil' ?_; refine TC.condD rfl (fun hc52 => ?_) (fun hc52 => ?_)
              · try dsimp only at hc52
                refine TC.skip' ?_; refine TC.seq ?_; refine TC.block ?_; refine TC.seq ?_
                have hci := hct i i1 (by omega)
                rw [Nat.zero_add] at hci
                have hai := accR_pre hn i1 i2 hct
                have hst := accR_step u 0 i i1
                rw [Nat.zero_add] at hst
                refine TC.region ?_; (iterate 2 refine TL.run1 (pure_move rfl) rfl ?_); refine TL.run1 (pure_index_byt (j := i) Tryd.underlying9 rfl rfl rfl (by omega)) rfl ?_; refine TL.run1 (pure_conv Tryd.underlying5 Tryd.underlying3 rfl (fit_i64 (by omega) (by omega))) rfl ?_; refine TL.run1 (pure_assign rfl) rfl ?_; refine TL.nil' ?_; refine TC.seq ?_; refine TC.regionCut [59, 60, 61, 62, 63, 64] 64 (False) ?_ ?_
                · skip
                  refine TL.run1 (pure_move rfl) rfl ?_; refine TL.run1 (pure_lss rfl rfl) rfl ?_; refine TL.run1 (pure_move rfl) rfl ?_; refine TL.splitP 61 rfl (fun hg61 => ?_) (fun hg61 => ?_)
                  · try dsimp only at hg61
                    (iterate 2 refine TL.passG rfl rfl rfl rfl ?_); refine TL.run1 (pure_pick_true rfl rfl) rfl ?_; refine TL.cutEnd (by repeat (first | exact Same.refl _ _ | refine Same.put rfl ?_)) rfl ?_
                    simp only [decide_eq_true_eq, iff_false]; omega
                  · try dsimp only at hg61
                    refine TL.runG rfl rfl (pure_move rfl) rfl ?_; refine TL.runG rfl rfl (pure_gtr rfl rfl) rfl ?_; refine TL.run1 (pure_pick_false rfl rfl) rfl ?_; refine TL.cutEnd (by repeat (first | exact Same.refl _ _ | refine Same.put rfl ?_)) rfl ?_
                    simp only [decide_eq_true_eq, iff_false]; omega
                refine TC.condD rfl (fun hc64 => ?_) (fun hc64 => ?_)
                · try dsimp only at hc64
                  all_goals exact hc64.elim
                · try dsimp only at hc64
                  refine TC.skip' ?_; refine TC.region ?_; refine TL.run1 (pure_move rfl) rfl ?_; refine TL.run1 (pure_mul rfl rfl (mkI64 (by omega) (by omega))) rfl ?_; refine TL.run1 (pure_move rfl) rfl ?_; refine TL.run1 (pure_add rfl rfl (mkI64 (by omega) (by omega))) rfl ?_; refine TL.run1 (pure_sub rfl rfl (mkI64 (by omega) (by omega))) rfl ?_; refine TL.run1 (pure_assign rfl) rfl ?_; refine TL.nil ?_; refine block_normal ?_; refine then_normal ?_; refine TC.region ?_; refine TL.run1 (pure_move rfl) rfl ?_; refine TL.run1 (pure_add rfl rfl (mkI64 (by omega) (by omega))) rfl ?_; refine TL.run1 (pure_assign rfl) rfl ?_; refine TL.nil ?_; refine loop_next (i + 1) ⟨by ((try dsimp only); rw [hst, show (((i + 1 : Nat)) : Int) = (i : Int) + 1 by omega]; repeat (first | exact Agree.nil | refine Agree.cons rfl ?_)), by repeat (first | exact List.nil_sublist _ | exact List.Sublist.refl _ | apply List.Sublist.cons_cons | apply List.Sublist.cons)⟩ ⟨by omega, by omega⟩ (by omega)
              · try dsimp only at hc52
                refine TC.exit ?_; refine then_exit ?_; refine loop_exit ?_; refine block_here ?_; refine then_normal ?_; refine TC.seq ?_
                have hie : i = n := by omega
                subst hie
                have hen := enc_full hn n1 hin hct hpb
                refine TC.drawCut [70, 71, 72, 73, 74, 75, 76, 77, 78, 79, 80] 80 (False) Ty.follows (by kernel_rfl) ?_ ?_
                · skip
                  refine TD.run1 (pure_move rfl) rfl ?_; refine TD.run1 (pure_call (IsPoint_spec (accR u 0 i) p0 p1 p2) (.cons rfl .nil) Tryd.call86) rfl ?_; refine TD.run1 (pure_not rfl) rfl ?_; refine TD.run1 (pure_move rfl) rfl ?_; refine TD.split 73 rfl (fun hg73 => ?_) (fun hg73 => ?_)
                  · try dsimp only at hg73
                    (iterate 6 refine TD.passG rfl rfl rfl rfl ?_); refine TD.run1 (pure_pick_true rfl rfl) rfl ?_; refine TD.cutEnd (by repeat (first | exact Same.refl _ _ | refine Same.put rfl ?_)) rfl ?_
                    first | (exact absurd hg73 (by decide)) | contradiction | (rw [hen]; simp)
                  · try dsimp only at hg73
                    refine TD.runG rfl rfl (pure_move rfl) rfl ?_; refine TD.runG rfl rfl (pure_call (Encode_spec (accR u 0 i) p0 p1) (.cons rfl .nil) Tryd.call75) rfl ?_; (iterate 2 refine TD.runG rfl rfl (pure_move rfl) rfl ?_); refine TD.runG rfl rfl (pure_slice_str (l := 0) (h := i) Tryd.underlying9 rfl rfl rfl (by omega) (by omega)) rfl ?_; refine TD.runG rfl rfl (pure_neq_string rfl rfl) rfl ?_; refine TD.run1 (pure_pick_false rfl rfl) rfl ?_; refine TD.cutEnd (by repeat (first | exact Same.refl _ _ | refine Same.put rfl ?_)) rfl ?_
                    first | (exact absurd hg73 (by decide)) | contradiction | (rw [hen]; simp)
                refine TC.condD rfl (fun hc80 => ?_) (fun hc80 => ?_)
                · try dsimp only at hc80
                  all_goals exact hc80.elim
                · try dsimp only at hc80
                  refine TC.skip' ?_; refine TC.seq ?_; refine TC.region ?_; (iterate 2 refine TL.run1 (pure_move rfl) rfl ?_); (iterate 2 refine TL.run1 (pure_assign rfl) rfl ?_); refine TL.nil' ?_; refine TC.ret ?_
                  exact ret2 (.inl rfl) rfl rfl rfl
          · try dsimp only at hc37
            exfalso; omega
end Go.Ob
