import Derived.Test.YtkmgogabbefonaaDoorK7
import Derived.Test.YtkmgogabbefonaaDoorM
import Derived.Test.YtkmgogabbefonaaDoorObW
set_option linter.unusedVariables false
set_option linter.unusedSimpArgs false
namespace Go.Ob
open Go.Proofs
/-! ### strict decoding: the bounds of the second byte -/
def lowT (b : Int) : Int := if b = 224 then 160 else if b = 240 then 144 else 128
def highT (b : Int) : Int := if b = 237 then 159 else if b = 244 then 143 else 191
def lowI (s : ByteArray) (a i : Nat) : Int := if i = 1 then lowT (byt s a) else 128
def highI (s : ByteArray) (a i : Nat) : Int := if i = 1 then highT (byt s a) else 191
theorem lowT_ge (b : Int) : 128 ≤ lowT b ∧ lowT b ≤ 160 ∧ 143 ≤ highT b ∧ highT b ≤ 191 := by unfold lowT highT; repeat' split
                                                                                              all_goals omega
theorem lowI_ge (s : ByteArray) (a i : Nat) : 128 ≤ lowI s a i ∧ lowI s a i ≤ 160 ∧ 143 ≤ highI s a i ∧ highI s a i ≤ 191 := by
  have := lowT_ge (byt s a)
  unfold lowI highI
  split <;> omega
def GoodC (s : ByteArray) (a i : Nat) : Prop := a + i < s.size ∧ lowI s a i ≤ byt s (a + i) ∧ (byt s (a + i) : Int) ≤ highI s a i
instance (s : ByteArray) (a i : Nat) : Decidable (GoodC s a i) := by unfold GoodC; infer_instance
def badI (s : ByteArray) (a : Nat) : Nat → Nat → Nat
  | 0, i => i
  | f + 1, i => if GoodC s a i then badI s a f (i + 1) else i
theorem badI_eq (s : ByteArray) (a : Nat) : ∀ f i k, i ≤ k → k < i + f → (∀ j, i ≤ j → j < k → GoodC s a j) → ¬ GoodC s a k → badI s a f i = k
  | 0, i, k, h1, h2, _, _ => by omega
  | f + 1, i, k, h1, h2, hg, hb => by
    rw [badI]
    rcases Nat.eq_or_lt_of_le h1 with rfl | h
    · rw [if_neg hb]
    · rw [if_pos (hg i (Nat.le_refl _) h)]
      exact badI_eq s a f (i + 1) k h (by omega) (fun j x y => hg j (by omega) y) hb
theorem GoodC.cont {s : ByteArray} {a i : Nat} (h : GoodC s a i) : 128 ≤ byt s (a + i) ∧ byt s (a + i) ≤ 191 := by
  have := lowI_ge s a i
  obtain ⟨_, h2, h3⟩ := h
  omega
theorem good_con {s : ByteArray} {a n : Nat} (h : ∀ j, 1 ≤ j → j < n → GoodC s a j) : ConT s a n := fun j a1 a2 => (h j a1 (by omega)).cont
theorem acc_two (s : ByteArray) (a n : Nat) (hn : n = 2 ∨ n = 3 ∨ n = 4) : accR s a n = (if n = 2 then 64 * shB (byt s a) + byt s (a + 1) - 128 else if n = 3 then 64 * (64 * shB (byt s a) + byt s (a + 1) - 128) + byt s (a + 2) - 128 else 64 * (64 * (64 * shB (byt s a) + byt s (a + 1) - 128) + byt s (a + 2) - 128) + byt s (a + 3) - 128) := by
  rcases hn with rfl | rfl | rfl <;> rfl
theorem pt_good {s : ByteArray} {a n : Nat} (hn : shN (byt s a) = n) (h2 : 2 ≤ n) (hc : ConT s a n) : PtBad (accR s a n) n ↔ ¬ (lowT (byt s a) ≤ byt s (a + 1) ∧ (byt s (a + 1) : Int) ≤ highT (byt s a)) := by
  have h0 := byt_lt s a
  have hcs := shN_cases (byt s a)
  have c1 := hc 1 (by omega) (by omega)
  have hl2 : iAt leastL 2 = 128 := rfl
  have hl3 : iAt leastL 3 = 2048 := rfl
  have hl4 : iAt leastL 4 = 65536 := rfl
  have hn' : n = 2 ∨ n = 3 ∨ n = 4 := by omega
  rw [acc_two s a n hn']
  unfold PtBad
  rcases hn' with rfl | rfl | rfl
  · simp only [if_true, Int.ofNat_eq_natCast]
    show (_ < iAt leastL 2 ∨ _) ↔ _
    rw [hl2]
    unfold shN at hn; unfold shB lowT highT
    repeat' split at hn
    all_goals (repeat' split)
    all_goals omega
  · have c2 := hc 2 (by omega) (by omega)
    simp only [show ¬ (3 = 2) by omega, if_false, if_true]
    show (_ < iAt leastL 3 ∨ _) ↔ _
    rw [hl3]
    unfold shN at hn; unfold shB lowT highT
    repeat' split at hn
    all_goals (repeat' split)
    all_goals omega
  · have c2 := hc 2 (by omega) (by omega)
    have c3 := hc 3 (by omega) (by omega)
    simp only [show ¬ (4 = 2) by omega, show ¬ (4 = 3) by omega, if_false]
    show (_ < iAt leastL 4 ∨ _) ↔ _
    rw [hl4]
    unfold shN at hn; unfold shB lowT highT
    repeat' split at hn
    all_goals (repeat' split)
    all_goals omega
theorem dec_bad {s : ByteArray} {a i n : Nat} (ha : a < s.size) (hn : shN (byt s a) = n) (h1 : 1 ≤ i) (h2 : i < n) (hg : ∀ j, 1 ≤ j → j < i → GoodC s a j) (hb : ¬ GoodC s a i) : BadAt s a := by
  rcases Nat.lt_or_ge s.size (a + n) with h | h
  · exact step_none s a ha (.inr (by omega))
  · by_cases hc : ConT s a n
    · rcases Nat.lt_or_ge 1 i with h3 | h3
      · exfalso
        have := hc i h1 (by omega)
        refine hb ⟨by omega, ?_, ?_⟩
        · unfold lowI; rw [if_neg (by omega)]; omega
        · unfold highI; rw [if_neg (by omega)]; omega
      · obtain rfl : i = 1 := by omega
        refine (step_full s a n hn (by omega) h hc).1 ((pt_good hn (by omega) hc).2 fun e => hb ⟨by omega, ?_, ?_⟩)
        · unfold lowI; rw [if_pos rfl]; exact e.1
        · unfold highI; rw [if_pos rfl]; exact e.2
    · unfold ConT at hc
      simp only [Classical.not_forall] at hc
      obtain ⟨j, j1, j2, hj⟩ := hc
      exact step_cont s a j j1 (by omega) (by omega)
theorem dec_full {s : ByteArray} {a n : Nat} (hn : shN (byt s a) = n) (h2 : 2 ≤ n) (hg : ∀ j, 1 ≤ j → j < n → GoodC s a j) : ¬ BadAt s a ∧ ((Utf8.decode s a).1 : Int) = accR s a n ∧ (Utf8.decode s a).2 = n := by
  have hc := good_con hg
  have hl := hg (n - 1) (by omega) (by omega)
  have hin : a + n ≤ s.size := by have := hl.1; omega
  refine (step_full s a n hn (by omega) hin hc).2 fun e => ?_
  have g1 := hg 1 (by omega) (by omega)
  refine (pt_good hn h2 hc).1 e ⟨?_, ?_⟩
  · have := g1.2.1; unfold lowI at this; rwa [if_pos rfl] at this
  · have := g1.2.2; unfold highI at this; rwa [if_pos rfl] at this
theorem dec_one {s : ByteArray} {a : Nat} (ha : a < s.size) (hn : shN (byt s a) = 1) : ¬ BadAt s a ∧ ((Utf8.decode s a).1 : Int) = byt s a ∧ (Utf8.decode s a).2 = 1 := by
  have h0 := byt_lt s a
  have hb : (byt s a : Int) < 128 := by unfold shN at hn; repeat' split at hn
                                        all_goals omega
  have hsb : shB (byt s a) = byt s a := by unfold shB; rw [if_pos hb]
  have h := (step_full s a 1 hn (by omega) (by omega) (fun j x y => by omega)).2 (by
    show ¬ (accR s a 1 < iAt leastL 1 ∨ _)
    have : iAt leastL 1 = 0 := rfl
    have e : accR s a 1 = byt s a := hsb
    rw [this, e]; omega)
  have e : accR s a 1 = byt s a := hsb
  rwa [e] at h
def cpP (s : ByteArray) (a : Nat) : Int := if BadAt s a then 0 else ((Utf8.decode s a).1 : Int)
def cpZ (s : ByteArray) (a : Nat) : Int := if BadAt s a then (if shN (byt s a) = 0 then 0 else (badI s a 4 1 : Nat)) else ((Utf8.decode s a).2 : Int)
theorem cp_none {s : ByteArray} {a : Nat} (ha : a < s.size) (h : shN (byt s a) = 0) : cpP s a = 0 ∧ cpZ s a = 0 ∧ BadAt s a := by
  have hb := step_none s a ha (.inl h)
  unfold cpP cpZ
  rw [if_pos hb, if_pos hb, if_pos h]; exact ⟨rfl, rfl, hb⟩
theorem cp_one {s : ByteArray} {a : Nat} (ha : a < s.size) (h : shN (byt s a) = 1) : cpP s a = byt s a ∧ cpZ s a = 1 ∧ ¬ BadAt s a := by
  obtain ⟨h1, h2, h3⟩ := dec_one ha h
  unfold cpP cpZ
  rw [if_neg h1, if_neg h1, h2, h3]; exact ⟨rfl, rfl, h1⟩
theorem cp_bad {s : ByteArray} {a i n : Nat} (ha : a < s.size) (hn : shN (byt s a) = n) (h1 : 1 ≤ i) (h2 : i < n) (hg : ∀ j, 1 ≤ j → j < i → GoodC s a j) (hb : ¬ GoodC s a i) : cpP s a = 0 ∧ cpZ s a = i ∧ BadAt s a := by
  have hbad := dec_bad ha hn h1 h2 hg hb
  have hcs := shN_cases (byt s a)
  unfold cpP cpZ
  rw [if_pos hbad, if_pos hbad, if_neg (by omega), badI_eq s a 4 1 i h1 (by omega) hg hb]; exact ⟨rfl, rfl, hbad⟩
theorem cp_full {s : ByteArray} {a n : Nat} (hn : shN (byt s a) = n) (h2 : 2 ≤ n) (hg : ∀ j, 1 ≤ j → j < n → GoodC s a j) : cpP s a = accR s a n ∧ cpZ s a = n ∧ ¬ BadAt s a := by
  obtain ⟨h1, h3, h4⟩ := dec_full hn h2 hg
  unfold cpP cpZ
  rw [if_neg h1, if_neg h1, h3, h4]; exact ⟨rfl, rfl, h1⟩
/-- the bits that a first byte gives -/
theorem pure_and_first {P : Program} {H : Hp} {env : Env} {dst : Option Tmp} {ty : TypeId} {pos : String} {af : Array Edge} {gd : Option (Nat × Bool)} {x y : Operand} {t t2 : TypeId} {b n : Int} (hn : shN b = n) (h2 : 2 ≤ n) (h0 : 0 ≤ b) (h1 : b < 256)
    (hx : opD env x = some (.v (.int .i64 b))) (hy : opD env y = some (.v (.int .i64 (127 / 2 ^ n.toNat)))) : Pure P H ⟨dst, .binOp .and t x y t2, ty, pos, af, gd⟩ env (.v (.int .i64 (shB b))) := by
  have hcs := shN_cases b
  have hc : n = 2 ∨ n = 3 ∨ n = 4 := by omega
  have key : ∀ (m : Int) (i : Nat), i ≤ 62 → (2 : Int) ^ i = m → (127 : Int) / 2 ^ n.toNat = m - 1 → b % m = shB b → Pure P H ⟨dst, .binOp .and t x y t2, ty, pos, af, gd⟩ env (.v (.int .i64 (shB b))) := fun m i hi hm hb he => by
    rw [← he]; exact pure_and_mask i hi hm hb hx hy h0 (by omega)
  rcases hc with rfl | rfl | rfl
  · refine key 32 5 (by decide) (by decide) (by decide) ?_
    unfold shN at hn; unfold shB
    repeat' split at hn
    all_goals (repeat' split)
    all_goals omega
  · refine key 16 4 (by decide) (by decide) (by decide) ?_
    unfold shN at hn; unfold shB
    repeat' split at hn
    all_goals (repeat' split)
    all_goals omega
  · refine key 8 3 (by decide) (by decide) (by decide) ?_
    unfold shN at hn; unfold shB
    repeat' split at hn
    all_goals (repeat' split)
    all_goals omega
/-! ### the first error -/
def FirstAt (s : ByteArray) (v : Int) : Prop := (v = -1 ∧ okS s = true) ∨ ∃ k : Nat, v = rpos s k ∧ rpos s k < s.size ∧ BadAt s (rpos s k) ∧ ∀ j, j < k → ¬ BadAt s (rpos s j)
theorem least_of {p : Nat → Prop} [DecidablePred p] : ∀ n, p n → ∃ m, m ≤ n ∧ p m ∧ ∀ j, j < m → ¬ p j := by
  intro n
  induction n using Nat.strongRecOn with
  | _ n ih =>
    intro h
    by_cases hx : ∃ j, j < n ∧ p j
    · obtain ⟨j, h1, h2⟩ := hx
      obtain ⟨m, a, b, c⟩ := ih j h1 h2
      exact ⟨m, by omega, b, c⟩
    · exact ⟨n, Nat.le_refl _, h, fun j hj hp => hx ⟨j, hj, hp⟩⟩
theorem first_exists (s : ByteArray) : ∃ v, FirstAt s v := by
  cases h : okS s with
  | true => exact ⟨-1, .inl ⟨rfl, h⟩⟩
  | false =>
    have h1 : ¬ ∀ k, k < nR s → ¬ BadAt s (rpos s k) := of_decide_eq_false h
    simp only [Classical.not_forall, Classical.not_not] at h1
    obtain ⟨k, hk, hb⟩ := h1
    obtain ⟨m, a, b, c⟩ := least_of (p := fun k => BadAt s (rpos s k)) k hb
    exact ⟨rpos s m, .inr ⟨m, rfl, nR_lt.1 (by omega), b, c⟩⟩
theorem FirstAt.lt {s : ByteArray} {v : Int} (h : FirstAt s v) : decide (v < 0) = okS s := by
  rcases h with ⟨rfl, h⟩ | ⟨k, rfl, h1, h2, _⟩
  · rw [h]; rfl
  · rw [okS_false h1 h2]; exact decide_eq_false (by omega)
theorem FirstAt.bad {s : ByteArray} {v : Int} (h : FirstAt s v) {k : Nat} (hk : rpos s k < s.size) (hb : BadAt s (rpos s k)) (hg : ∀ j, j < k → ¬ BadAt s (rpos s j)) : v = rpos s k := by
  rcases h with ⟨rfl, h⟩ | ⟨m, rfl, h1, h2, h3⟩
  · rw [okS_false hk hb] at h; cases h
  · rcases Nat.lt_trichotomy k m with h | h | h
    · exact absurd hb (h3 k h)
    · rw [h]
    · exact absurd h2 (hg m h)
theorem FirstAt.none {s : ByteArray} {v : Int} (h : FirstAt s v) {k : Nat} (hk : s.size ≤ rpos s k) (hg : ∀ j, j < k → ¬ BadAt s (rpos s j)) : v = -1 := by
  rcases h with ⟨rfl, h⟩ | ⟨m, rfl, h1, h2, h3⟩
  · rfl
  · exfalso
    rcases Nat.lt_or_ge m k with h | h
    · exact hg m h h2
    · have := rpos_mono s h; omega
def atP (s : ByteArray) : Int := if s.size = 0 then 0 else cpP s 0
def atZ (s : ByteArray) : Int := if s.size = 0 then 0 else if BadAt s 0 then 0 else cpZ s 0
def atE (s : ByteArray) : Int := if s.size = 0 then 2 else if BadAt s 0 then 12 else 0
def p1 (s : ByteArray) : Int := if s.size = 0 then 0 else ((Utf8.decode s 0).1 : Int)
theorem atP_bad {s : ByteArray} (h0 : s.size ≠ 0) (h : BadAt s 0) : atP s = 0 := by unfold atP cpP; rw [if_neg h0, if_pos h]
theorem atP_ok {s : ByteArray} (h : okS s = true) : atP s = p1 s := by
  unfold atP p1 cpP
  split
  · rfl
  · rename_i h0
    have h1 : ¬ BadAt s (rpos s 0) := of_decide_eq_true h 0 (nR_lt.2 (by rw [rpos]; omega))
    rw [if_neg (show ¬ BadAt s 0 from h1)]
theorem p1_range (s : ByteArray) : 0 ≤ p1 s ∧ p1 s ≤ 1114111 := by
  have := dc_rune s 0
  unfold p1; split <;> omega
theorem atP_range (s : ByteArray) : 0 ≤ atP s ∧ atP s ≤ 1114111 := by
  have := dc_rune s 0
  unfold atP cpP
  repeat' split
  all_goals omega
set_option maxRecDepth 100000 in
theorem tail_spec (b : Int) (hb0 : 0 ≤ b) (hb1 : b < 256) : Fun Tryd.prog 74 [.v (.int .u8 b)] (.tup [.v (.int .u8 (lowT b)), .v (.int .u8 (highT b)), .v (.int .i64 (shN b))]) := by
  refine Fun.enter (n := 33) (rs := [.tmp 2, .tmp 3, .tmp 4]) Tryd.func74 rfl Tryd.ntmps74 Tryd.results74 rfl (fun w F => ?_)
  refine TC.seq ?_
  refine TC.region ?_
  refine TL.run1 (pure_assign rfl) rfl ?_
  refine TL.run1 (pure_assign rfl) rfl ?_
  refine TL.run1 (pure_assign rfl) rfl ?_
  refine TL.nil' ?_
  refine TC.seq ?_
  refine TC.region ?_
  refine TL.run1 (pure_assign rfl) rfl ?_
  refine TL.run1 (pure_assign rfl) rfl ?_
  refine TL.nil' ?_
  refine TC.seq ?_
  refine TC.block ?_
  refine TC.seq ?_
  refine TC.region ?_
  refine TL.run1 (pure_move rfl) rfl ?_
  refine TL.run1 (pure_lss rfl rfl) rfl ?_
  refine TL.run1 (pure_assign rfl) rfl ?_
  refine TL.nil' ?_
  first | refine TC.condD rfl (fun hc5 => ?_) (fun hc5 => ?_) | refine TC.condN rfl (fun hc5 => ?_) (fun hc5 => ?_) | refine TC.cond rfl (fun hc5 => ?_) (fun hc5 => ?_)
  · try dsimp only at hc5
    refine TC.region ?_
    refine TL.run1 (pure_assign rfl) rfl ?_
    refine TL.nil ?_
    refine block_normal ?_
    refine then_normal ?_
    refine TC.seq ?_
    refine TC.seq ?_
    refine TC.region ?_
    refine TL.run1 (pure_move rfl) rfl ?_
    refine TL.nil' ?_
    refine TC.block ?_
    refine TC.seq ?_
    refine TC.region ?_
    refine TL.run1 (pure_eql rfl rfl) rfl ?_
    refine TL.run1 (pure_assign rfl) rfl ?_
    refine TL.nil' ?_
    first | refine TC.condD rfl (fun hc22 => ?_) (fun hc22 => ?_) | refine TC.condN rfl (fun hc22 => ?_) (fun hc22 => ?_) | refine TC.cond rfl (fun hc22 => ?_) (fun hc22 => ?_)
    · try dsimp only at hc22
      refine TC.region ?_
      refine TL.run1 (pure_assign rfl) rfl ?_
      refine TL.nil ?_
      refine block_normal ?_
      refine then_normal ?_
      refine TC.seq ?_
      refine TC.region ?_
      refine TL.run1 (pure_move rfl) rfl ?_
      refine TL.run1 (pure_move rfl) rfl ?_
      refine TL.run1 (pure_move rfl) rfl ?_
      refine TL.run1 (pure_assign rfl) rfl ?_
      refine TL.run1 (pure_assign rfl) rfl ?_
      refine TL.run1 (pure_assign rfl) rfl ?_
      refine TL.nil' ?_
      refine TC.ret ?_
      have e1 : lowT b = 160 := by (unfold lowT; (repeat' split) <;> omega)
      have e2 : highT b = 191 := by (unfold highT; (repeat' split) <;> omega)
      have e3 : shN b = 1 := by (unfold shN; (repeat' split) <;> omega)
      exact ret3 (.inl rfl) rfl rfl rfl (by rw [e1, e2, e3])
    · try dsimp only at hc22
      refine TC.seq ?_
      refine TC.region ?_
      refine TL.run1 (pure_eql rfl rfl) rfl ?_
      refine TL.run1 (pure_assign rfl) rfl ?_
      refine TL.nil' ?_
      first | refine TC.condD rfl (fun hc24 => ?_) (fun hc24 => ?_) | refine TC.condN rfl (fun hc24 => ?_) (fun hc24 => ?_) | refine TC.cond rfl (fun hc24 => ?_) (fun hc24 => ?_)
      · try dsimp only at hc24
        refine TC.region ?_
        refine TL.run1 (pure_assign rfl) rfl ?_
        refine TL.nil ?_
        refine block_normal ?_
        refine then_normal ?_
        refine TC.seq ?_
        refine TC.region ?_
        refine TL.run1 (pure_move rfl) rfl ?_
        refine TL.run1 (pure_move rfl) rfl ?_
        refine TL.run1 (pure_move rfl) rfl ?_
        refine TL.run1 (pure_assign rfl) rfl ?_
        refine TL.run1 (pure_assign rfl) rfl ?_
        refine TL.run1 (pure_assign rfl) rfl ?_
        refine TL.nil' ?_
        refine TC.ret ?_
        have e1 : lowT b = 128 := by (unfold lowT; (repeat' split) <;> omega)
        have e2 : highT b = 159 := by (unfold highT; (repeat' split) <;> omega)
        have e3 : shN b = 1 := by (unfold shN; (repeat' split) <;> omega)
        exact ret3 (.inl rfl) rfl rfl rfl (by rw [e1, e2, e3])
      · try dsimp only at hc24
        refine TC.seq ?_
        refine TC.region ?_
        refine TL.run1 (pure_eql rfl rfl) rfl ?_
        refine TL.run1 (pure_assign rfl) rfl ?_
        refine TL.nil' ?_
        first | refine TC.condD rfl (fun hc26 => ?_) (fun hc26 => ?_) | refine TC.condN rfl (fun hc26 => ?_) (fun hc26 => ?_) | refine TC.cond rfl (fun hc26 => ?_) (fun hc26 => ?_)
        · try dsimp only at hc26
          refine TC.region ?_
          refine TL.run1 (pure_assign rfl) rfl ?_
          refine TL.nil ?_
          refine block_normal ?_
          refine then_normal ?_
          refine TC.seq ?_
          refine TC.region ?_
          refine TL.run1 (pure_move rfl) rfl ?_
          refine TL.run1 (pure_move rfl) rfl ?_
          refine TL.run1 (pure_move rfl) rfl ?_
          refine TL.run1 (pure_assign rfl) rfl ?_
          refine TL.run1 (pure_assign rfl) rfl ?_
          refine TL.run1 (pure_assign rfl) rfl ?_
          refine TL.nil' ?_
          refine TC.ret ?_
          have e1 : lowT b = 144 := by (unfold lowT; (repeat' split) <;> omega)
          have e2 : highT b = 191 := by (unfold highT; (repeat' split) <;> omega)
          have e3 : shN b = 1 := by (unfold shN; (repeat' split) <;> omega)
          exact ret3 (.inl rfl) rfl rfl rfl (by rw [e1, e2, e3])
        · try dsimp only at hc26
          refine TC.seq ?_
          refine TC.region ?_
          refine TL.run1 (pure_eql rfl rfl) rfl ?_
          refine TL.run1 (pure_assign rfl) rfl ?_
          refine TL.nil' ?_
          first | refine TC.condD rfl (fun hc28 => ?_) (fun hc28 => ?_) | refine TC.condN rfl (fun hc28 => ?_) (fun hc28 => ?_) | refine TC.cond rfl (fun hc28 => ?_) (fun hc28 => ?_)
          · try dsimp only at hc28
            refine TC.region ?_
            refine TL.run1 (pure_assign rfl) rfl ?_
            refine TL.nil ?_
            refine block_normal ?_
            refine then_normal ?_
            refine TC.seq ?_
            refine TC.region ?_
            refine TL.run1 (pure_move rfl) rfl ?_
            refine TL.run1 (pure_move rfl) rfl ?_
            refine TL.run1 (pure_move rfl) rfl ?_
            refine TL.run1 (pure_assign rfl) rfl ?_
            refine TL.run1 (pure_assign rfl) rfl ?_
            refine TL.run1 (pure_assign rfl) rfl ?_
            refine TL.nil' ?_
            refine TC.ret ?_
            have e1 : lowT b = 128 := by (unfold lowT; (repeat' split) <;> omega)
            have e2 : highT b = 143 := by (unfold highT; (repeat' split) <;> omega)
            have e3 : shN b = 1 := by (unfold shN; (repeat' split) <;> omega)
            exact ret3 (.inl rfl) rfl rfl rfl (by rw [e1, e2, e3])
          · try dsimp only at hc28
            refine TC.skip ?_
            refine block_normal ?_
            refine then_normal ?_
            refine TC.seq ?_
            refine TC.region ?_
            refine TL.run1 (pure_move rfl) rfl ?_
            refine TL.run1 (pure_move rfl) rfl ?_
            refine TL.run1 (pure_move rfl) rfl ?_
            refine TL.run1 (pure_assign rfl) rfl ?_
            refine TL.run1 (pure_assign rfl) rfl ?_
            refine TL.run1 (pure_assign rfl) rfl ?_
            refine TL.nil' ?_
            refine TC.ret ?_
            have e1 : lowT b = 128 := by (unfold lowT; (repeat' split) <;> omega)
            have e2 : highT b = 191 := by (unfold highT; (repeat' split) <;> omega)
            have e3 : shN b = 1 := by (unfold shN; (repeat' split) <;> omega)
            exact ret3 (.inl rfl) rfl rfl rfl (by rw [e1, e2, e3])
  · try dsimp only at hc5
    refine TC.regionCut [9, 10, 11, 12, 13, 14, 8] 8 (b < 194 ∨ b > 244) ?_ ?_
    · skip
      refine TL.run1 (pure_move rfl) rfl ?_
      refine TL.run1 (pure_lss rfl rfl) rfl ?_
      refine TL.run1 (pure_move rfl) rfl ?_
      first | refine TL.splitP 11 rfl (fun hg11 => ?_) (fun hg11 => ?_) | refine TL.split 11 rfl (fun hg11 => ?_) (fun hg11 => ?_)
      · try dsimp only at hg11
        refine TL.passG rfl rfl rfl rfl ?_
        refine TL.passG rfl rfl rfl rfl ?_
        refine TL.run1 (pure_pick_true rfl rfl) rfl ?_
        refine TL.run1 (pure_assign rfl) rfl ?_
        refine TL.cutEnd (by repeat (first | exact Same.refl _ _ | refine Same.put rfl ?_)) rfl ?_
        first | (simp only [decide_eq_true_eq, Bool.false_eq_true, false_iff, true_iff, iff_true, iff_false, Bool.not_eq_true]; omega) | (simp_all; done) | (simp_all; omega) | grind
      · try dsimp only at hg11
        refine TL.runG rfl rfl (pure_move rfl) rfl ?_
        refine TL.runG rfl rfl (pure_gtr rfl rfl) rfl ?_
        refine TL.run1 (pure_pick_false rfl rfl) rfl ?_
        refine TL.run1 (pure_assign rfl) rfl ?_
        refine TL.cutEnd (by repeat (first | exact Same.refl _ _ | refine Same.put rfl ?_)) rfl ?_
        first | (simp only [decide_eq_true_eq, Bool.false_eq_true, false_iff, true_iff, iff_true, iff_false, Bool.not_eq_true]; omega) | (simp_all; done) | (simp_all; omega) | grind
    first | refine TC.condD rfl (fun hc8 => ?_) (fun hc8 => ?_) | refine TC.condN rfl (fun hc8 => ?_) (fun hc8 => ?_) | refine TC.cond rfl (fun hc8 => ?_) (fun hc8 => ?_)
    · try dsimp only at hc8
      refine TC.region ?_
      refine TL.run1 (pure_assign rfl) rfl ?_
      refine TL.nil ?_
      refine block_normal ?_
      refine then_normal ?_
      refine TC.seq ?_
      refine TC.seq ?_
      refine TC.region ?_
      refine TL.run1 (pure_move rfl) rfl ?_
      refine TL.nil' ?_
      refine TC.block ?_
      refine TC.seq ?_
      refine TC.region ?_
      refine TL.run1 (pure_eql rfl rfl) rfl ?_
      refine TL.run1 (pure_assign rfl) rfl ?_
      refine TL.nil' ?_
      first | refine TC.condD rfl (fun hc22 => ?_) (fun hc22 => ?_) | refine TC.condN rfl (fun hc22 => ?_) (fun hc22 => ?_) | refine TC.cond rfl (fun hc22 => ?_) (fun hc22 => ?_)
      · try dsimp only at hc22
        refine TC.region ?_
        refine TL.run1 (pure_assign rfl) rfl ?_
        refine TL.nil ?_
        refine block_normal ?_
        refine then_normal ?_
        refine TC.seq ?_
        refine TC.region ?_
        refine TL.run1 (pure_move rfl) rfl ?_
        refine TL.run1 (pure_move rfl) rfl ?_
        refine TL.run1 (pure_move rfl) rfl ?_
        refine TL.run1 (pure_assign rfl) rfl ?_
        refine TL.run1 (pure_assign rfl) rfl ?_
        refine TL.run1 (pure_assign rfl) rfl ?_
        refine TL.nil' ?_
        refine TC.ret ?_
        have e1 : lowT b = 160 := by (unfold lowT; (repeat' split) <;> omega)
        have e2 : highT b = 191 := by (unfold highT; (repeat' split) <;> omega)
        have e3 : shN b = 0 := by (unfold shN; (repeat' split) <;> omega)
        exact ret3 (.inl rfl) rfl rfl rfl (by rw [e1, e2, e3])
      · try dsimp only at hc22
        refine TC.seq ?_
        refine TC.region ?_
        refine TL.run1 (pure_eql rfl rfl) rfl ?_
        refine TL.run1 (pure_assign rfl) rfl ?_
        refine TL.nil' ?_
        first | refine TC.condD rfl (fun hc24 => ?_) (fun hc24 => ?_) | refine TC.condN rfl (fun hc24 => ?_) (fun hc24 => ?_) | refine TC.cond rfl (fun hc24 => ?_) (fun hc24 => ?_)
        · try dsimp only at hc24
          refine TC.region ?_
          refine TL.run1 (pure_assign rfl) rfl ?_
          refine TL.nil ?_
          refine block_normal ?_
          refine then_normal ?_
          refine TC.seq ?_
          refine TC.region ?_
          refine TL.run1 (pure_move rfl) rfl ?_
          refine TL.run1 (pure_move rfl) rfl ?_
          refine TL.run1 (pure_move rfl) rfl ?_
          refine TL.run1 (pure_assign rfl) rfl ?_
          refine TL.run1 (pure_assign rfl) rfl ?_
          refine TL.run1 (pure_assign rfl) rfl ?_
          refine TL.nil' ?_
          refine TC.ret ?_
          have e1 : lowT b = 128 := by (unfold lowT; (repeat' split) <;> omega)
          have e2 : highT b = 159 := by (unfold highT; (repeat' split) <;> omega)
          have e3 : shN b = 0 := by (unfold shN; (repeat' split) <;> omega)
          exact ret3 (.inl rfl) rfl rfl rfl (by rw [e1, e2, e3])
        · try dsimp only at hc24
          refine TC.seq ?_
          refine TC.region ?_
          refine TL.run1 (pure_eql rfl rfl) rfl ?_
          refine TL.run1 (pure_assign rfl) rfl ?_
          refine TL.nil' ?_
          first | refine TC.condD rfl (fun hc26 => ?_) (fun hc26 => ?_) | refine TC.condN rfl (fun hc26 => ?_) (fun hc26 => ?_) | refine TC.cond rfl (fun hc26 => ?_) (fun hc26 => ?_)
          · try dsimp only at hc26
            refine TC.region ?_
            refine TL.run1 (pure_assign rfl) rfl ?_
            refine TL.nil ?_
            refine block_normal ?_
            refine then_normal ?_
            refine TC.seq ?_
            refine TC.region ?_
            refine TL.run1 (pure_move rfl) rfl ?_
            refine TL.run1 (pure_move rfl) rfl ?_
            refine TL.run1 (pure_move rfl) rfl ?_
            refine TL.run1 (pure_assign rfl) rfl ?_
            refine TL.run1 (pure_assign rfl) rfl ?_
            refine TL.run1 (pure_assign rfl) rfl ?_
            refine TL.nil' ?_
            refine TC.ret ?_
            have e1 : lowT b = 144 := by (unfold lowT; (repeat' split) <;> omega)
            have e2 : highT b = 191 := by (unfold highT; (repeat' split) <;> omega)
            have e3 : shN b = 0 := by (unfold shN; (repeat' split) <;> omega)
            exact ret3 (.inl rfl) rfl rfl rfl (by rw [e1, e2, e3])
          · try dsimp only at hc26
            refine TC.seq ?_
            refine TC.region ?_
            refine TL.run1 (pure_eql rfl rfl) rfl ?_
            refine TL.run1 (pure_assign rfl) rfl ?_
            refine TL.nil' ?_
            first | refine TC.condD rfl (fun hc28 => ?_) (fun hc28 => ?_) | refine TC.condN rfl (fun hc28 => ?_) (fun hc28 => ?_) | refine TC.cond rfl (fun hc28 => ?_) (fun hc28 => ?_)
            · try dsimp only at hc28
              refine TC.region ?_
              refine TL.run1 (pure_assign rfl) rfl ?_
              refine TL.nil ?_
              refine block_normal ?_
              refine then_normal ?_
              refine TC.seq ?_
              refine TC.region ?_
              refine TL.run1 (pure_move rfl) rfl ?_
              refine TL.run1 (pure_move rfl) rfl ?_
              refine TL.run1 (pure_move rfl) rfl ?_
              refine TL.run1 (pure_assign rfl) rfl ?_
              refine TL.run1 (pure_assign rfl) rfl ?_
              refine TL.run1 (pure_assign rfl) rfl ?_
              refine TL.nil' ?_
              refine TC.ret ?_
              have e1 : lowT b = 128 := by (unfold lowT; (repeat' split) <;> omega)
              have e2 : highT b = 143 := by (unfold highT; (repeat' split) <;> omega)
              have e3 : shN b = 0 := by (unfold shN; (repeat' split) <;> omega)
              exact ret3 (.inl rfl) rfl rfl rfl (by rw [e1, e2, e3])
            · try dsimp only at hc28
              refine TC.skip ?_
              refine block_normal ?_
              refine then_normal ?_
              refine TC.seq ?_
              refine TC.region ?_
              refine TL.run1 (pure_move rfl) rfl ?_
              refine TL.run1 (pure_move rfl) rfl ?_
              refine TL.run1 (pure_move rfl) rfl ?_
              refine TL.run1 (pure_assign rfl) rfl ?_
              refine TL.run1 (pure_assign rfl) rfl ?_
              refine TL.run1 (pure_assign rfl) rfl ?_
              refine TL.nil' ?_
              refine TC.ret ?_
              have e1 : lowT b = 128 := by (unfold lowT; (repeat' split) <;> omega)
              have e2 : highT b = 191 := by (unfold highT; (repeat' split) <;> omega)
              have e3 : shN b = 0 := by (unfold shN; (repeat' split) <;> omega)
              exact ret3 (.inl rfl) rfl rfl rfl (by rw [e1, e2, e3])
    · try dsimp only at hc8
      refine TC.seq ?_
      refine TC.region ?_
      refine TL.run1 (pure_move rfl) rfl ?_
      refine TL.run1 (pure_lss rfl rfl) rfl ?_
      refine TL.run1 (pure_assign rfl) rfl ?_
      refine TL.nil' ?_
      first | refine TC.condD rfl (fun hc15 => ?_) (fun hc15 => ?_) | refine TC.condN rfl (fun hc15 => ?_) (fun hc15 => ?_) | refine TC.cond rfl (fun hc15 => ?_) (fun hc15 => ?_)
      · try dsimp only at hc15
        refine TC.region ?_
        refine TL.run1 (pure_assign rfl) rfl ?_
        refine TL.nil ?_
        refine block_normal ?_
        refine then_normal ?_
        refine TC.seq ?_
        refine TC.seq ?_
        refine TC.region ?_
        refine TL.run1 (pure_move rfl) rfl ?_
        refine TL.nil' ?_
        refine TC.block ?_
        refine TC.seq ?_
        refine TC.region ?_
        refine TL.run1 (pure_eql rfl rfl) rfl ?_
        refine TL.run1 (pure_assign rfl) rfl ?_
        refine TL.nil' ?_
        first | refine TC.condD rfl (fun hc22 => ?_) (fun hc22 => ?_) | refine TC.condN rfl (fun hc22 => ?_) (fun hc22 => ?_) | refine TC.cond rfl (fun hc22 => ?_) (fun hc22 => ?_)
        · try dsimp only at hc22
          refine TC.region ?_
          refine TL.run1 (pure_assign rfl) rfl ?_
          refine TL.nil ?_
          refine block_normal ?_
          refine then_normal ?_
          refine TC.seq ?_
          refine TC.region ?_
          refine TL.run1 (pure_move rfl) rfl ?_
          refine TL.run1 (pure_move rfl) rfl ?_
          refine TL.run1 (pure_move rfl) rfl ?_
          refine TL.run1 (pure_assign rfl) rfl ?_
          refine TL.run1 (pure_assign rfl) rfl ?_
          refine TL.run1 (pure_assign rfl) rfl ?_
          refine TL.nil' ?_
          refine TC.ret ?_
          have e1 : lowT b = 160 := by (unfold lowT; (repeat' split) <;> omega)
          have e2 : highT b = 191 := by (unfold highT; (repeat' split) <;> omega)
          have e3 : shN b = 2 := by (unfold shN; (repeat' split) <;> omega)
          exact ret3 (.inl rfl) rfl rfl rfl (by rw [e1, e2, e3])
        · try dsimp only at hc22
          refine TC.seq ?_
          refine TC.region ?_
          refine TL.run1 (pure_eql rfl rfl) rfl ?_
          refine TL.run1 (pure_assign rfl) rfl ?_
          refine TL.nil' ?_
          first | refine TC.condD rfl (fun hc24 => ?_) (fun hc24 => ?_) | refine TC.condN rfl (fun hc24 => ?_) (fun hc24 => ?_) | refine TC.cond rfl (fun hc24 => ?_) (fun hc24 => ?_)
          · try dsimp only at hc24
            refine TC.region ?_
            refine TL.run1 (pure_assign rfl) rfl ?_
            refine TL.nil ?_
            refine block_normal ?_
            refine then_normal ?_
            refine TC.seq ?_
            refine TC.region ?_
            refine TL.run1 (pure_move rfl) rfl ?_
            refine TL.run1 (pure_move rfl) rfl ?_
            refine TL.run1 (pure_move rfl) rfl ?_
            refine TL.run1 (pure_assign rfl) rfl ?_
            refine TL.run1 (pure_assign rfl) rfl ?_
            refine TL.run1 (pure_assign rfl) rfl ?_
            refine TL.nil' ?_
            refine TC.ret ?_
            have e1 : lowT b = 128 := by (unfold lowT; (repeat' split) <;> omega)
            have e2 : highT b = 159 := by (unfold highT; (repeat' split) <;> omega)
            have e3 : shN b = 2 := by (unfold shN; (repeat' split) <;> omega)
            exact ret3 (.inl rfl) rfl rfl rfl (by rw [e1, e2, e3])
          · try dsimp only at hc24
            refine TC.seq ?_
            refine TC.region ?_
            refine TL.run1 (pure_eql rfl rfl) rfl ?_
            refine TL.run1 (pure_assign rfl) rfl ?_
            refine TL.nil' ?_
            first | refine TC.condD rfl (fun hc26 => ?_) (fun hc26 => ?_) | refine TC.condN rfl (fun hc26 => ?_) (fun hc26 => ?_) | refine TC.cond rfl (fun hc26 => ?_) (fun hc26 => ?_)
            · try dsimp only at hc26
              refine TC.region ?_
              refine TL.run1 (pure_assign rfl) rfl ?_
              refine TL.nil ?_
              refine block_normal ?_
              refine then_normal ?_
              refine TC.seq ?_
              refine TC.region ?_
              refine TL.run1 (pure_move rfl) rfl ?_
              refine TL.run1 (pure_move rfl) rfl ?_
              refine TL.run1 (pure_move rfl) rfl ?_
              refine TL.run1 (pure_assign rfl) rfl ?_
              refine TL.run1 (pure_assign rfl) rfl ?_
              refine TL.run1 (pure_assign rfl) rfl ?_
              refine TL.nil' ?_
              refine TC.ret ?_
              have e1 : lowT b = 144 := by (unfold lowT; (repeat' split) <;> omega)
              have e2 : highT b = 191 := by (unfold highT; (repeat' split) <;> omega)
              have e3 : shN b = 2 := by (unfold shN; (repeat' split) <;> omega)
              exact ret3 (.inl rfl) rfl rfl rfl (by rw [e1, e2, e3])
            · try dsimp only at hc26
              refine TC.seq ?_
              refine TC.region ?_
              refine TL.run1 (pure_eql rfl rfl) rfl ?_
              refine TL.run1 (pure_assign rfl) rfl ?_
              refine TL.nil' ?_
              first | refine TC.condD rfl (fun hc28 => ?_) (fun hc28 => ?_) | refine TC.condN rfl (fun hc28 => ?_) (fun hc28 => ?_) | refine TC.cond rfl (fun hc28 => ?_) (fun hc28 => ?_)
              · try dsimp only at hc28
                refine TC.region ?_
                refine TL.run1 (pure_assign rfl) rfl ?_
                refine TL.nil ?_
                refine block_normal ?_
                refine then_normal ?_
                refine TC.seq ?_
                refine TC.region ?_
                refine TL.run1 (pure_move rfl) rfl ?_
                refine TL.run1 (pure_move rfl) rfl ?_
                refine TL.run1 (pure_move rfl) rfl ?_
                refine TL.run1 (pure_assign rfl) rfl ?_
                refine TL.run1 (pure_assign rfl) rfl ?_
                refine TL.run1 (pure_assign rfl) rfl ?_
                refine TL.nil' ?_
                refine TC.ret ?_
                have e1 : lowT b = 128 := by (unfold lowT; (repeat' split) <;> omega)
                have e2 : highT b = 143 := by (unfold highT; (repeat' split) <;> omega)
                have e3 : shN b = 2 := by (unfold shN; (repeat' split) <;> omega)
                exact ret3 (.inl rfl) rfl rfl rfl (by rw [e1, e2, e3])
              · try dsimp only at hc28
                refine TC.skip ?_
                refine block_normal ?_
                refine then_normal ?_
                refine TC.seq ?_
                refine TC.region ?_
                refine TL.run1 (pure_move rfl) rfl ?_
                refine TL.run1 (pure_move rfl) rfl ?_
                refine TL.run1 (pure_move rfl) rfl ?_
                refine TL.run1 (pure_assign rfl) rfl ?_
                refine TL.run1 (pure_assign rfl) rfl ?_
                refine TL.run1 (pure_assign rfl) rfl ?_
                refine TL.nil' ?_
                refine TC.ret ?_
                have e1 : lowT b = 128 := by (unfold lowT; (repeat' split) <;> omega)
                have e2 : highT b = 191 := by (unfold highT; (repeat' split) <;> omega)
                have e3 : shN b = 2 := by (unfold shN; (repeat' split) <;> omega)
                exact ret3 (.inl rfl) rfl rfl rfl (by rw [e1, e2, e3])
      · try dsimp only at hc15
        refine TC.seq ?_
        refine TC.region ?_
        refine TL.run1 (pure_move rfl) rfl ?_
        refine TL.run1 (pure_lss rfl rfl) rfl ?_
        refine TL.run1 (pure_assign rfl) rfl ?_
        refine TL.nil' ?_
        first | refine TC.condD rfl (fun hc18 => ?_) (fun hc18 => ?_) | refine TC.condN rfl (fun hc18 => ?_) (fun hc18 => ?_) | refine TC.cond rfl (fun hc18 => ?_) (fun hc18 => ?_)
        · try dsimp only at hc18
          refine TC.region ?_
          refine TL.run1 (pure_assign rfl) rfl ?_
          refine TL.nil ?_
          refine block_normal ?_
          refine then_normal ?_
          refine TC.seq ?_
          refine TC.seq ?_
          refine TC.region ?_
          refine TL.run1 (pure_move rfl) rfl ?_
          refine TL.nil' ?_
          refine TC.block ?_
          refine TC.seq ?_
          refine TC.region ?_
          refine TL.run1 (pure_eql rfl rfl) rfl ?_
          refine TL.run1 (pure_assign rfl) rfl ?_
          refine TL.nil' ?_
          first | refine TC.condD rfl (fun hc22 => ?_) (fun hc22 => ?_) | refine TC.condN rfl (fun hc22 => ?_) (fun hc22 => ?_) | refine TC.cond rfl (fun hc22 => ?_) (fun hc22 => ?_)
          · try dsimp only at hc22
            refine TC.region ?_
            refine TL.run1 (pure_assign rfl) rfl ?_
            refine TL.nil ?_
            refine block_normal ?_
            refine then_normal ?_
            refine TC.seq ?_
            refine TC.region ?_
            refine TL.run1 (pure_move rfl) rfl ?_
            refine TL.run1 (pure_move rfl) rfl ?_
            refine TL.run1 (pure_move rfl) rfl ?_
            refine TL.run1 (pure_assign rfl) rfl ?_
            refine TL.run1 (pure_assign rfl) rfl ?_
            refine TL.run1 (pure_assign rfl) rfl ?_
            refine TL.nil' ?_
            refine TC.ret ?_
            have e1 : lowT b = 160 := by (unfold lowT; (repeat' split) <;> omega)
            have e2 : highT b = 191 := by (unfold highT; (repeat' split) <;> omega)
            have e3 : shN b = 3 := by (unfold shN; (repeat' split) <;> omega)
            exact ret3 (.inl rfl) rfl rfl rfl (by rw [e1, e2, e3])
          · try dsimp only at hc22
            refine TC.seq ?_
            refine TC.region ?_
            refine TL.run1 (pure_eql rfl rfl) rfl ?_
            refine TL.run1 (pure_assign rfl) rfl ?_
            refine TL.nil' ?_
            first | refine TC.condD rfl (fun hc24 => ?_) (fun hc24 => ?_) | refine TC.condN rfl (fun hc24 => ?_) (fun hc24 => ?_) | refine TC.cond rfl (fun hc24 => ?_) (fun hc24 => ?_)
            · try dsimp only at hc24
              refine TC.region ?_
              refine TL.run1 (pure_assign rfl) rfl ?_
              refine TL.nil ?_
              refine block_normal ?_
              refine then_normal ?_
              refine TC.seq ?_
              refine TC.region ?_
              refine TL.run1 (pure_move rfl) rfl ?_
              refine TL.run1 (pure_move rfl) rfl ?_
              refine TL.run1 (pure_move rfl) rfl ?_
              refine TL.run1 (pure_assign rfl) rfl ?_
              refine TL.run1 (pure_assign rfl) rfl ?_
              refine TL.run1 (pure_assign rfl) rfl ?_
              refine TL.nil' ?_
              refine TC.ret ?_
              have e1 : lowT b = 128 := by (unfold lowT; (repeat' split) <;> omega)
              have e2 : highT b = 159 := by (unfold highT; (repeat' split) <;> omega)
              have e3 : shN b = 3 := by (unfold shN; (repeat' split) <;> omega)
              exact ret3 (.inl rfl) rfl rfl rfl (by rw [e1, e2, e3])
            · try dsimp only at hc24
              refine TC.seq ?_
              refine TC.region ?_
              refine TL.run1 (pure_eql rfl rfl) rfl ?_
              refine TL.run1 (pure_assign rfl) rfl ?_
              refine TL.nil' ?_
              first | refine TC.condD rfl (fun hc26 => ?_) (fun hc26 => ?_) | refine TC.condN rfl (fun hc26 => ?_) (fun hc26 => ?_) | refine TC.cond rfl (fun hc26 => ?_) (fun hc26 => ?_)
              · try dsimp only at hc26
                refine TC.region ?_
                refine TL.run1 (pure_assign rfl) rfl ?_
                refine TL.nil ?_
                refine block_normal ?_
                refine then_normal ?_
                refine TC.seq ?_
                refine TC.region ?_
                refine TL.run1 (pure_move rfl) rfl ?_
                refine TL.run1 (pure_move rfl) rfl ?_
                refine TL.run1 (pure_move rfl) rfl ?_
                refine TL.run1 (pure_assign rfl) rfl ?_
                refine TL.run1 (pure_assign rfl) rfl ?_
                refine TL.run1 (pure_assign rfl) rfl ?_
                refine TL.nil' ?_
                refine TC.ret ?_
                have e1 : lowT b = 144 := by (unfold lowT; (repeat' split) <;> omega)
                have e2 : highT b = 191 := by (unfold highT; (repeat' split) <;> omega)
                have e3 : shN b = 3 := by (unfold shN; (repeat' split) <;> omega)
                exact ret3 (.inl rfl) rfl rfl rfl (by rw [e1, e2, e3])
              · try dsimp only at hc26
                refine TC.seq ?_
                refine TC.region ?_
                refine TL.run1 (pure_eql rfl rfl) rfl ?_
                refine TL.run1 (pure_assign rfl) rfl ?_
                refine TL.nil' ?_
                first | refine TC.condD rfl (fun hc28 => ?_) (fun hc28 => ?_) | refine TC.condN rfl (fun hc28 => ?_) (fun hc28 => ?_) | refine TC.cond rfl (fun hc28 => ?_) (fun hc28 => ?_)
                · try dsimp only at hc28
                  refine TC.region ?_
                  refine TL.run1 (pure_assign rfl) rfl ?_
                  refine TL.nil ?_
                  refine block_normal ?_
                  refine then_normal ?_
                  refine TC.seq ?_
                  refine TC.region ?_
                  refine TL.run1 (pure_move rfl) rfl ?_
                  refine TL.run1 (pure_move rfl) rfl ?_
                  refine TL.run1 (pure_move rfl) rfl ?_
                  refine TL.run1 (pure_assign rfl) rfl ?_
                  refine TL.run1 (pure_assign rfl) rfl ?_
                  refine TL.run1 (pure_assign rfl) rfl ?_
                  refine TL.nil' ?_
                  refine TC.ret ?_
                  have e1 : lowT b = 128 := by (unfold lowT; (repeat' split) <;> omega)
                  have e2 : highT b = 143 := by (unfold highT; (repeat' split) <;> omega)
                  have e3 : shN b = 3 := by (unfold shN; (repeat' split) <;> omega)
                  exact ret3 (.inl rfl) rfl rfl rfl (by rw [e1, e2, e3])
                · try dsimp only at hc28
                  refine TC.skip ?_
                  refine block_normal ?_
                  refine then_normal ?_
                  refine TC.seq ?_
                  refine TC.region ?_
                  refine TL.run1 (pure_move rfl) rfl ?_
                  refine TL.run1 (pure_move rfl) rfl ?_
                  refine TL.run1 (pure_move rfl) rfl ?_
                  refine TL.run1 (pure_assign rfl) rfl ?_
                  refine TL.run1 (pure_assign rfl) rfl ?_
                  refine TL.run1 (pure_assign rfl) rfl ?_
                  refine TL.nil' ?_
                  refine TC.ret ?_
                  have e1 : lowT b = 128 := by (unfold lowT; (repeat' split) <;> omega)
                  have e2 : highT b = 191 := by (unfold highT; (repeat' split) <;> omega)
                  have e3 : shN b = 3 := by (unfold shN; (repeat' split) <;> omega)
                  exact ret3 (.inl rfl) rfl rfl rfl (by rw [e1, e2, e3])
        · try dsimp only at hc18
          refine TC.region ?_
          refine TL.run1 (pure_assign rfl) rfl ?_
          refine TL.nil ?_
          refine block_normal ?_
          refine then_normal ?_
          refine TC.seq ?_
          refine TC.seq ?_
          refine TC.region ?_
          refine TL.run1 (pure_move rfl) rfl ?_
          refine TL.nil' ?_
          refine TC.block ?_
          refine TC.seq ?_
          refine TC.region ?_
          refine TL.run1 (pure_eql rfl rfl) rfl ?_
          refine TL.run1 (pure_assign rfl) rfl ?_
          refine TL.nil' ?_
          first | refine TC.condD rfl (fun hc22 => ?_) (fun hc22 => ?_) | refine TC.condN rfl (fun hc22 => ?_) (fun hc22 => ?_) | refine TC.cond rfl (fun hc22 => ?_) (fun hc22 => ?_)
          · try dsimp only at hc22
            refine TC.region ?_
            refine TL.run1 (pure_assign rfl) rfl ?_
            refine TL.nil ?_
            refine block_normal ?_
            refine then_normal ?_
            refine TC.seq ?_
            refine TC.region ?_
            refine TL.run1 (pure_move rfl) rfl ?_
            refine TL.run1 (pure_move rfl) rfl ?_
            refine TL.run1 (pure_move rfl) rfl ?_
            refine TL.run1 (pure_assign rfl) rfl ?_
            refine TL.run1 (pure_assign rfl) rfl ?_
            refine TL.run1 (pure_assign rfl) rfl ?_
            refine TL.nil' ?_
            refine TC.ret ?_
            have e1 : lowT b = 160 := by (unfold lowT; (repeat' split) <;> omega)
            have e2 : highT b = 191 := by (unfold highT; (repeat' split) <;> omega)
            have e3 : shN b = 4 := by (unfold shN; (repeat' split) <;> omega)
            exact ret3 (.inl rfl) rfl rfl rfl (by rw [e1, e2, e3])
          · try dsimp only at hc22
            refine TC.seq ?_
            refine TC.region ?_
            refine TL.run1 (pure_eql rfl rfl) rfl ?_
            refine TL.run1 (pure_assign rfl) rfl ?_
            refine TL.nil' ?_
            first | refine TC.condD rfl (fun hc24 => ?_) (fun hc24 => ?_) | refine TC.condN rfl (fun hc24 => ?_) (fun hc24 => ?_) | refine TC.cond rfl (fun hc24 => ?_) (fun hc24 => ?_)
            · try dsimp only at hc24
              refine TC.region ?_
              refine TL.run1 (pure_assign rfl) rfl ?_
              refine TL.nil ?_
              refine block_normal ?_
              refine then_normal ?_
              refine TC.seq ?_
              refine TC.region ?_
              refine TL.run1 (pure_move rfl) rfl ?_
              refine TL.run1 (pure_move rfl) rfl ?_
              refine TL.run1 (pure_move rfl) rfl ?_
              refine TL.run1 (pure_assign rfl) rfl ?_
              refine TL.run1 (pure_assign rfl) rfl ?_
              refine TL.run1 (pure_assign rfl) rfl ?_
              refine TL.nil' ?_
              refine TC.ret ?_
              have e1 : lowT b = 128 := by (unfold lowT; (repeat' split) <;> omega)
              have e2 : highT b = 159 := by (unfold highT; (repeat' split) <;> omega)
              have e3 : shN b = 4 := by (unfold shN; (repeat' split) <;> omega)
              exact ret3 (.inl rfl) rfl rfl rfl (by rw [e1, e2, e3])
            · try dsimp only at hc24
              refine TC.seq ?_
              refine TC.region ?_
              refine TL.run1 (pure_eql rfl rfl) rfl ?_
              refine TL.run1 (pure_assign rfl) rfl ?_
              refine TL.nil' ?_
              first | refine TC.condD rfl (fun hc26 => ?_) (fun hc26 => ?_) | refine TC.condN rfl (fun hc26 => ?_) (fun hc26 => ?_) | refine TC.cond rfl (fun hc26 => ?_) (fun hc26 => ?_)
              · try dsimp only at hc26
                refine TC.region ?_
                refine TL.run1 (pure_assign rfl) rfl ?_
                refine TL.nil ?_
                refine block_normal ?_
                refine then_normal ?_
                refine TC.seq ?_
                refine TC.region ?_
                refine TL.run1 (pure_move rfl) rfl ?_
                refine TL.run1 (pure_move rfl) rfl ?_
                refine TL.run1 (pure_move rfl) rfl ?_
                refine TL.run1 (pure_assign rfl) rfl ?_
                refine TL.run1 (pure_assign rfl) rfl ?_
                refine TL.run1 (pure_assign rfl) rfl ?_
                refine TL.nil' ?_
                refine TC.ret ?_
                have e1 : lowT b = 144 := by (unfold lowT; (repeat' split) <;> omega)
                have e2 : highT b = 191 := by (unfold highT; (repeat' split) <;> omega)
                have e3 : shN b = 4 := by (unfold shN; (repeat' split) <;> omega)
                exact ret3 (.inl rfl) rfl rfl rfl (by rw [e1, e2, e3])
              · try dsimp only at hc26
                refine TC.seq ?_
                refine TC.region ?_
                refine TL.run1 (pure_eql rfl rfl) rfl ?_
                refine TL.run1 (pure_assign rfl) rfl ?_
                refine TL.nil' ?_
                first | refine TC.condD rfl (fun hc28 => ?_) (fun hc28 => ?_) | refine TC.condN rfl (fun hc28 => ?_) (fun hc28 => ?_) | refine TC.cond rfl (fun hc28 => ?_) (fun hc28 => ?_)
                · try dsimp only at hc28
                  refine TC.region ?_
                  refine TL.run1 (pure_assign rfl) rfl ?_
                  refine TL.nil ?_
                  refine block_normal ?_
                  refine then_normal ?_
                  refine TC.seq ?_
                  refine TC.region ?_
                  refine TL.run1 (pure_move rfl) rfl ?_
                  refine TL.run1 (pure_move rfl) rfl ?_
                  refine TL.run1 (pure_move rfl) rfl ?_
                  refine TL.run1 (pure_assign rfl) rfl ?_
                  refine TL.run1 (pure_assign rfl) rfl ?_
                  refine TL.run1 (pure_assign rfl) rfl ?_
                  refine TL.nil' ?_
                  refine TC.ret ?_
                  have e1 : lowT b = 128 := by (unfold lowT; (repeat' split) <;> omega)
                  have e2 : highT b = 143 := by (unfold highT; (repeat' split) <;> omega)
                  have e3 : shN b = 4 := by (unfold shN; (repeat' split) <;> omega)
                  exact ret3 (.inl rfl) rfl rfl rfl (by rw [e1, e2, e3])
                · try dsimp only at hc28
                  refine TC.skip ?_
                  refine block_normal ?_
                  refine then_normal ?_
                  refine TC.seq ?_
                  refine TC.region ?_
                  refine TL.run1 (pure_move rfl) rfl ?_
                  refine TL.run1 (pure_move rfl) rfl ?_
                  refine TL.run1 (pure_move rfl) rfl ?_
                  refine TL.run1 (pure_assign rfl) rfl ?_
                  refine TL.run1 (pure_assign rfl) rfl ?_
                  refine TL.run1 (pure_assign rfl) rfl ?_
                  refine TL.nil' ?_
                  refine TC.ret ?_
                  have e1 : lowT b = 128 := by (unfold lowT; (repeat' split) <;> omega)
                  have e2 : highT b = 191 := by (unfold highT; (repeat' split) <;> omega)
                  have e3 : shN b = 4 := by (unfold shN; (repeat' split) <;> omega)
                  exact ret3 (.inl rfl) rfl rfl rfl (by rw [e1, e2, e3])
set_option maxRecDepth 100000 in
theorem decode_spec (s : ByteArray) (a : Nat) (ha : a < s.size) (hs : s.size ≤ 1000000000) : Fun Tryd.prog 65 [.v (.string s), .v (.int .i64 a)] (.tup [.v (.int .i64 (cpP s a)), .v (.int .i64 (cpZ s a)), .v (.bool (!decide (BadAt s a)))]) := by
  refine Fun.enter (n := 74) (rs := [.tmp 4, .tmp 5, .tmp 6]) Tryd.func65 rfl Tryd.ntmps65 Tryd.results65 rfl (fun w F => ?_)
  have hb := byt_lt s a
  have hcs := shN_cases (byt s a : Int)
  refine TC.seq ?_
  refine TC.region ?_
  refine TL.run1 (pure_assign rfl) rfl ?_
  refine TL.run1 (pure_assign rfl) rfl ?_
  refine TL.run1 (pure_assign rfl) rfl ?_
  refine TL.nil' ?_
  refine TC.seq ?_
  refine TC.region ?_
  refine TL.run1 (pure_move rfl) rfl ?_
  refine TL.run1 (pure_move rfl) rfl ?_
  refine TL.run1 (pure_index_byt (j := a) Tryd.underlying9 rfl rfl rfl (by omega)) rfl ?_
  refine TL.run1 (pure_assign rfl) rfl ?_
  refine TL.nil' ?_
  refine TC.seq ?_
  refine TC.region ?_
  refine TL.run1 (pure_move rfl) rfl ?_
  refine TL.run1 (pure_call (tail_spec (byt s a : Int) (by omega) (by omega)) (.cons rfl .nil) Tryd.call74) rfl ?_
  refine TL.run1 (pure_move rfl) rfl ?_
  refine TL.run1 (pure_extract rfl rfl) rfl ?_
  refine TL.run1 (pure_extract rfl rfl) rfl ?_
  refine TL.run1 (pure_extract rfl rfl) rfl ?_
  refine TL.run1 (pure_assign rfl) rfl ?_
  refine TL.run1 (pure_assign rfl) rfl ?_
  refine TL.run1 (pure_assign rfl) rfl ?_
  refine TL.nil' ?_
  refine TC.seq ?_
  refine TC.seq ?_
  refine TC.region ?_
  refine TL.run1 (pure_move rfl) rfl ?_
  refine TL.nil' ?_
  refine TC.block ?_
  refine TC.seq ?_
  refine TC.region ?_
  refine TL.run1 (pure_eql rfl rfl) rfl ?_
  refine TL.run1 (pure_assign rfl) rfl ?_
  refine TL.nil' ?_
  first | refine TC.condD rfl (fun hc21 => ?_) (fun hc21 => ?_) | refine TC.condN rfl (fun hc21 => ?_) (fun hc21 => ?_) | refine TC.cond rfl (fun hc21 => ?_) (fun hc21 => ?_)
  · try dsimp only at hc21
    refine TC.seq ?_
    refine TC.region ?_
    refine TL.run1 (pure_assign rfl) rfl ?_
    refine TL.run1 (pure_assign rfl) rfl ?_
    refine TL.run1 (pure_assign rfl) rfl ?_
    refine TL.nil' ?_
    refine TC.ret ?_
    refine block_ret ?_
    refine then_ret ?_
    obtain ⟨e1, e2, e3⟩ := cp_none (s := s) ha hc21
    exact ret3 (.inl rfl) rfl rfl rfl (by rw [e1, e2]; simp [e3])
  · try dsimp only at hc21
    refine TC.seq ?_
    refine TC.region ?_
    refine TL.run1 (pure_eql rfl rfl) rfl ?_
    refine TL.run1 (pure_assign rfl) rfl ?_
    refine TL.nil' ?_
    first | refine TC.condD rfl (fun hc23 => ?_) (fun hc23 => ?_) | refine TC.condN rfl (fun hc23 => ?_) (fun hc23 => ?_) | refine TC.cond rfl (fun hc23 => ?_) (fun hc23 => ?_)
    · try dsimp only at hc23
      refine TC.seq ?_
      refine TC.region ?_
      refine TL.run1 (pure_move rfl) rfl ?_
      refine TL.run1 (pure_conv Tryd.underlying5 Tryd.underlying3 rfl (fit_i64 (by omega) (by omega))) rfl ?_
      refine TL.run1 (pure_assign rfl) rfl ?_
      refine TL.run1 (pure_assign rfl) rfl ?_
      refine TL.run1 (pure_assign rfl) rfl ?_
      refine TL.nil' ?_
      refine TC.ret ?_
      refine block_ret ?_
      refine then_ret ?_
      obtain ⟨e1, e2, e3⟩ := cp_one (s := s) ha hc23
      exact ret3 (.inl rfl) rfl rfl rfl (by rw [e1, e2]; simp [e3])
    · try dsimp only at hc23
      refine TC.skip ?_
      refine block_normal ?_
      refine then_normal ?_
      refine TC.seq ?_
      refine TC.region ?_
      refine TL.run1 (pure_move rfl) rfl ?_
      refine TL.run1 (pure_conv Tryd.underlying5 Tryd.underlying3 rfl (fit_i64 (by omega) (by omega))) rfl ?_
      refine TL.run1 (pure_move rfl) rfl ?_
      refine TL.run1 (pure_shr rfl rfl (by omega) (by have : IntKind.i64.bits = 64 := rfl; omega)) rfl ?_
      refine TL.run1 (pure_and_first rfl (by omega) (by omega) (by omega) rfl rfl) rfl ?_
      refine TL.run1 (pure_assign rfl) rfl ?_
      refine TL.nil' ?_
      refine TC.seq ?_
      refine TC.seq ?_
      refine TC.region ?_
      refine TL.run1 (pure_assign rfl) rfl ?_
      refine TL.nil' ?_
      refine TC.block ?_
      refine TC.loopX (X := Nat) (fun i => [(0, .v (.string s)), (1, .v (.int .i64 a)), (4, .v (.int .i64 (accR s a i))), (5, .v (.int .i64 i)), (8, .v (.int .u8 (lowI s a i))), (9, .v (.int .u8 (highI s a i))), (10, .v (.int .i64 (shN (byt s a : Int))))]) (fun i => []) (fun i => (1 ≤ i) ∧ ((i : Int) ≤ shN (byt s a : Int)) ∧ (∀ j, 1 ≤ j → j < i → GoodC s a j)) (fun i => (shN (byt s a : Int) - i).toNat) (1) ⟨by skip; repeat (first | exact Agree.nil | refine Agree.cons rfl ?_), by skip; repeat (first | exact List.nil_sublist _ | exact List.Sublist.refl _ | apply List.Sublist.cons_cons | apply List.Sublist.cons)⟩ ?_ ?_
      · skip
        exact ⟨Nat.le_refl _, by omega, fun j x y => by omega⟩
      intro i
      rintro ⟨i1, i2, i3⟩
      show TC _ _ _ (Env.of [(0, .v (.string s)), (1, .v (.int .i64 a)), (4, .v (.int .i64 (accR s a i))), (5, .v (.int .i64 i)), (8, .v (.int .u8 (lowI s a i))), (9, .v (.int .u8 (highI s a i))), (10, .v (.int .i64 (shN (byt s a : Int))))]) []
      have hcon := good_con i3
      have hrg := accR_range s a i i1 i2 hcon
      have hb2 := byt_lt s (a + i)
      have hlg := lowI_ge s a i
      refine TC.seq ?_
      refine TC.seq ?_
      refine TC.region ?_
      refine TL.run1 (pure_move rfl) rfl ?_
      refine TL.run1 (pure_move rfl) rfl ?_
      refine TL.run1 (pure_lss rfl rfl) rfl ?_
      refine TL.nil' ?_
      first | refine TC.condD rfl (fun hc34 => ?_) (fun hc34 => ?_) | refine TC.condN rfl (fun hc34 => ?_) (fun hc34 => ?_) | refine TC.cond rfl (fun hc34 => ?_) (fun hc34 => ?_)
      · try dsimp only at hc34
        refine TC.skip' ?_
        refine TC.seq ?_
        refine TC.block ?_
        refine TC.seq ?_
        refine TC.regionCut [37, 38, 39, 40, 41, 42, 43, 44, 45, 46, 47, 48, 49, 50, 51, 52, 53, 54, 55, 56, 57, 58, 59, 60] 60 ((a : Int) + i ≥ s.size ∨ (byt s (a + i) : Int) < lowI s a i ∨ (byt s (a + i) : Int) > highI s a i) ?_ ?_
        · skip
          refine TL.run1 (pure_move rfl) rfl ?_
          refine TL.run1 (pure_move rfl) rfl ?_
          refine TL.run1 (pure_add rfl rfl (mkI64 (by omega) (by omega))) rfl ?_
          refine TL.run1 (pure_move rfl) rfl ?_
          refine TL.run1 (pure_len_str Tryd.underlying9 rfl) rfl ?_
          refine TL.run1 (pure_geq rfl rfl) rfl ?_
          refine TL.run1 (pure_move rfl) rfl ?_
          first | refine TL.splitP 43 rfl (fun hg43 => ?_) (fun hg43 => ?_) | refine TL.split 43 rfl (fun hg43 => ?_) (fun hg43 => ?_)
          · try dsimp only at hg43
            refine TL.passG rfl rfl rfl rfl ?_
            refine TL.passG rfl rfl rfl rfl ?_
            refine TL.passG rfl rfl rfl rfl ?_
            refine TL.passG rfl rfl rfl rfl ?_
            refine TL.passG rfl rfl rfl rfl ?_
            refine TL.passG rfl rfl rfl rfl ?_
            refine TL.passG rfl rfl rfl rfl ?_
            refine TL.run1 (pure_pick_true rfl rfl) rfl ?_
            refine TL.run1 (pure_move rfl) rfl ?_
            refine TL.passG rfl rfl rfl rfl ?_
            refine TL.passG rfl rfl rfl rfl ?_
            refine TL.passG rfl rfl rfl rfl ?_
            refine TL.passG rfl rfl rfl rfl ?_
            refine TL.passG rfl rfl rfl rfl ?_
            refine TL.passG rfl rfl rfl rfl ?_
            refine TL.passG rfl rfl rfl rfl ?_
            refine TL.run1 (pure_pick_true rfl rfl) rfl ?_
            refine TL.cutEnd (by repeat (first | exact Same.refl _ _ | refine Same.put rfl ?_)) rfl ?_
            first | (simp only [decide_eq_true_eq, Bool.false_eq_true, false_iff, true_iff, iff_true, iff_false, Bool.not_eq_true]; omega) | (simp_all; done) | (simp_all; omega) | grind
          · try dsimp only at hg43
            refine TL.runG rfl rfl (pure_move rfl) rfl ?_
            refine TL.runG rfl rfl (pure_move rfl) rfl ?_
            refine TL.runG rfl rfl (pure_move rfl) rfl ?_
            refine TL.runG rfl rfl (pure_add rfl rfl (mkI64 (by omega) (by omega))) rfl ?_
            refine TL.runG rfl rfl (pure_index_byt (j := a + i) Tryd.underlying9 rfl rfl (by omega) (by omega)) rfl ?_
            refine TL.runG rfl rfl (pure_move rfl) rfl ?_
            refine TL.runG rfl rfl (pure_lss rfl rfl) rfl ?_
            refine TL.run1 (pure_pick_false rfl rfl) rfl ?_
            refine TL.run1 (pure_move rfl) rfl ?_
            first | refine TL.splitP 52 rfl (fun hg52 => ?_) (fun hg52 => ?_) | refine TL.split 52 rfl (fun hg52 => ?_) (fun hg52 => ?_)
            · try dsimp only at hg52
              refine TL.passG rfl rfl rfl rfl ?_
              refine TL.passG rfl rfl rfl rfl ?_
              refine TL.passG rfl rfl rfl rfl ?_
              refine TL.passG rfl rfl rfl rfl ?_
              refine TL.passG rfl rfl rfl rfl ?_
              refine TL.passG rfl rfl rfl rfl ?_
              refine TL.passG rfl rfl rfl rfl ?_
              refine TL.run1 (pure_pick_true rfl rfl) rfl ?_
              refine TL.cutEnd (by repeat (first | exact Same.refl _ _ | refine Same.put rfl ?_)) rfl ?_
              first | (simp only [decide_eq_true_eq, Bool.false_eq_true, false_iff, true_iff, iff_true, iff_false, Bool.not_eq_true]; omega) | (simp_all; done) | (simp_all; omega) | grind
            · try dsimp only at hg52
              refine TL.runG rfl rfl (pure_move rfl) rfl ?_
              refine TL.runG rfl rfl (pure_move rfl) rfl ?_
              refine TL.runG rfl rfl (pure_move rfl) rfl ?_
              refine TL.runG rfl rfl (pure_add rfl rfl (mkI64 (by omega) (by omega))) rfl ?_
              refine TL.runG rfl rfl (pure_index_byt (j := a + i) Tryd.underlying9 rfl rfl (by omega) (by omega)) rfl ?_
              refine TL.runG rfl rfl (pure_move rfl) rfl ?_
              refine TL.runG rfl rfl (pure_gtr rfl rfl) rfl ?_
              refine TL.run1 (pure_pick_false rfl rfl) rfl ?_
              refine TL.cutEnd (by repeat (first | exact Same.refl _ _ | refine Same.put rfl ?_)) rfl ?_
              first | (simp only [decide_eq_true_eq, Bool.false_eq_true, false_iff, true_iff, iff_true, iff_false, Bool.not_eq_true]; omega) | (simp_all; done) | (simp_all; omega) | grind
        first | refine TC.condD rfl (fun hc60 => ?_) (fun hc60 => ?_) | refine TC.condN rfl (fun hc60 => ?_) (fun hc60 => ?_) | refine TC.cond rfl (fun hc60 => ?_) (fun hc60 => ?_)
        · try dsimp only at hc60
          obtain ⟨n, hn⟩ : ∃ n : Nat, shN (byt s a : Int) = n := ⟨(shN (byt s a : Int)).toNat, by omega⟩
          have hnb : ¬ GoodC s a i := fun h => by (obtain ⟨x, y, z⟩ := h; omega)
          refine TC.seq ?_
          refine TC.region ?_
          refine TL.run1 (pure_move rfl) rfl ?_
          refine TL.run1 (pure_assign rfl) rfl ?_
          refine TL.run1 (pure_assign rfl) rfl ?_
          refine TL.run1 (pure_assign rfl) rfl ?_
          refine TL.nil' ?_
          refine TC.ret ?_
          refine then_ret ?_
          refine block_ret ?_
          refine then_ret ?_
          refine loop_ret ?_
          refine block_ret ?_
          refine then_ret ?_
          obtain ⟨e1, e2, e3⟩ := cp_bad ha hn i1 (by omega) i3 hnb
          exact ret3 (.inl rfl) rfl rfl rfl (by rw [e1, e2]; simp [e3])
        · try dsimp only at hc60
          have hgi : GoodC s a i := ⟨by omega, by omega, by omega⟩
          refine TC.skip' ?_
          refine TC.seq ?_
          refine TC.region ?_
          refine TL.run1 (pure_move rfl) rfl ?_
          refine TL.run1 (pure_shl (m := 64) (by decide) rfl rfl (by decide) (by decide) (by omega) (by omega)) rfl ?_
          refine TL.run1 (pure_move rfl) rfl ?_
          refine TL.run1 (pure_move rfl) rfl ?_
          refine TL.run1 (pure_move rfl) rfl ?_
          refine TL.run1 (pure_add rfl rfl (mkI64 (by omega) (by omega))) rfl ?_
          refine TL.run1 (pure_index_byt (j := a + i) Tryd.underlying9 rfl rfl (by omega) (by omega)) rfl ?_
          refine TL.run1 (pure_conv Tryd.underlying5 Tryd.underlying3 rfl (fit_i64 (by omega) (by omega))) rfl ?_
          refine TL.run1 (pure_and_mask (m := 64) 6 (by decide) (by decide) (by decide) rfl rfl (by omega) (by omega)) rfl ?_
          refine TL.run1 (pure_or_join (m := 64) 6 (by decide) rfl rfl (by omega) (by omega) (by omega) (by omega) (by omega) (by omega)) rfl ?_
          refine TL.run1 (pure_assign rfl) rfl ?_
          refine TL.nil' ?_
          refine TC.region ?_
          refine TL.run1 (pure_assign rfl) rfl ?_
          refine TL.run1 (pure_assign rfl) rfl ?_
          refine TL.nil ?_
          refine block_normal ?_
          refine then_normal ?_
          refine TC.region ?_
          refine TL.run1 (pure_move rfl) rfl ?_
          refine TL.run1 (pure_add rfl rfl (mkI64 (by omega) (by omega))) rfl ?_
          refine TL.run1 (pure_assign rfl) rfl ?_
          refine TL.nil ?_
          have hac : accR s a (i + 1) = accR s a i * 64 + (byt s (a + i) : Int) % 64 := by (obtain ⟨m, rfl⟩ : ∃ m, i = m + 1 := ⟨i - 1, by omega⟩; rw [show m + 1 + 1 = m + 2 from rfl, accR, Nat.add_assoc]; omega)
          have hlo : lowI s a (i + 1) = 128 := by unfold lowI; rw [if_neg (by omega)]
          have hhi : highI s a (i + 1) = 191 := by unfold highI; rw [if_neg (by omega)]
          refine loop_next (i + 1) ⟨by ((try dsimp only); rw [hac, hlo, hhi, show (((i + 1 : Nat)) : Int) = (i : Int) + 1 by omega]; repeat (first | exact Agree.nil | refine Agree.cons rfl ?_)), by repeat (first | exact List.nil_sublist _ | exact List.Sublist.refl _ | apply List.Sublist.cons_cons | apply List.Sublist.cons)⟩ ⟨by omega, by omega, fun j x y => by rcases Nat.lt_or_eq_of_le (show j ≤ i by omega) with h | h; exact i3 j x h; rw [h]; exact hgi⟩ (by omega)
      · try dsimp only at hc34
        obtain ⟨n, hn⟩ : ∃ n : Nat, shN (byt s a : Int) = n := ⟨(shN (byt s a : Int)).toNat, by omega⟩
        obtain rfl : i = n := by omega
        refine TC.exit ?_
        refine then_exit ?_
        refine loop_exit ?_
        refine block_here ?_
        refine then_normal ?_
        refine TC.seq ?_
        refine TC.region ?_
        refine TL.run1 (pure_move rfl) rfl ?_
        refine TL.run1 (pure_move rfl) rfl ?_
        refine TL.run1 (pure_assign rfl) rfl ?_
        refine TL.run1 (pure_assign rfl) rfl ?_
        refine TL.run1 (pure_assign rfl) rfl ?_
        refine TL.nil' ?_
        refine TC.ret ?_
        obtain ⟨e1, e2, e3⟩ := cp_full hn (by omega) i3
        exact ret3 (.inl rfl) rfl rfl rfl (by rw [e1, e2]; simp [e3])
set_option maxRecDepth 100000 in
theorem First_spec (s : ByteArray) (v : Int) (hv : FirstAt s v) (hs : s.size ≤ 1000000000) : Fun Tryd.prog 64 [.v (.string s)] (.v (.int .i64 v)) := by
  refine Fun.enter (n := 24) (rs := [.tmp 2]) Tryd.func64 rfl Tryd.ntmps64 Tryd.results64 rfl (fun w F => ?_)
  refine TC.seq ?_
  refine TC.region ?_
  refine TL.run1 (pure_assign rfl) rfl ?_
  refine TL.nil' ?_
  refine TC.seq ?_
  refine TC.seq ?_
  refine TC.region ?_
  refine TL.run1 (pure_assign rfl) rfl ?_
  refine TL.nil' ?_
  refine TC.block ?_
  refine TC.loopX (X := Nat) (fun k => [(0, .v (.string s)), (3, .v (.int .i64 (rpos s k : Nat)))]) (fun k => []) (fun k => (rpos s k ≤ s.size) ∧ (∀ j, j < k → ¬ BadAt s (rpos s j))) (fun k => s.size - rpos s k) (0) ⟨by skip; repeat (first | exact Agree.nil | refine Agree.cons rfl ?_), by skip; repeat (first | exact List.nil_sublist _ | exact List.Sublist.refl _ | apply List.Sublist.cons_cons | apply List.Sublist.cons)⟩ ?_ ?_
  · skip
    exact ⟨Nat.zero_le _, fun j h => by omega⟩
  intro k
  rintro ⟨k1, k2⟩
  show TC _ _ _ (Env.of [(0, .v (.string s)), (3, .v (.int .i64 (rpos s k : Nat)))]) []
  refine TC.seq ?_
  refine TC.seq ?_
  refine TC.region ?_
  refine TL.run1 (pure_move rfl) rfl ?_
  refine TL.run1 (pure_move rfl) rfl ?_
  refine TL.run1 (pure_len_str Tryd.underlying9 rfl) rfl ?_
  refine TL.run1 (pure_lss rfl rfl) rfl ?_
  refine TL.nil' ?_
  first | refine TC.condD rfl (fun hc10 => ?_) (fun hc10 => ?_) | refine TC.condN rfl (fun hc10 => ?_) (fun hc10 => ?_) | refine TC.cond rfl (fun hc10 => ?_) (fun hc10 => ?_)
  · try dsimp only at hc10
    refine TC.skip' ?_
    refine TC.block ?_
    refine TC.seq ?_
    refine TC.region ?_
    refine TL.run1 (pure_move rfl) rfl ?_
    refine TL.run1 (pure_move rfl) rfl ?_
    refine TL.run1 (pure_call (decode_spec s (rpos s k) (by omega) hs) (.cons rfl (.cons rfl .nil)) Tryd.call65) rfl ?_
    refine TL.run1 (pure_move rfl) rfl ?_
    refine TL.run1 (pure_extract rfl rfl) rfl ?_
    refine TL.run1 (pure_extract rfl rfl) rfl ?_
    refine TL.run1 (pure_extract rfl rfl) rfl ?_
    refine TL.run1 (pure_assign rfl) rfl ?_
    refine TL.run1 (pure_assign rfl) rfl ?_
    refine TL.run1 (pure_assign rfl) rfl ?_
    refine TL.nil' ?_
    refine TC.seq ?_
    refine TC.seq ?_
    refine TC.region ?_
    refine TL.run1 (pure_move rfl) rfl ?_
    refine TL.run1 (pure_not rfl) rfl ?_
    refine TL.nil' ?_
    first | refine TC.condD rfl (fun hc19 => ?_) (fun hc19 => ?_) | refine TC.condN rfl (fun hc19 => ?_) (fun hc19 => ?_) | refine TC.cond rfl (fun hc19 => ?_) (fun hc19 => ?_)
    · try dsimp only at hc19
      have hbad : BadAt s (rpos s k) := by simpa using hc19
      refine TC.seq ?_
      refine TC.region ?_
      refine TL.run1 (pure_move rfl) rfl ?_
      refine TL.run1 (pure_assign rfl) rfl ?_
      refine TL.nil' ?_
      refine TC.ret ?_
      refine then_ret ?_
      refine block_ret ?_
      refine loop_ret ?_
      refine block_ret ?_
      refine then_ret ?_
      exact ret_int rfl (hv.bad (by omega) hbad k2).symm
    · try dsimp only at hc19
      have hnb : ¬ BadAt s (rpos s k) := by simpa using hc19
      have hz0 : cpZ s (rpos s k) = ((Utf8.decode s (rpos s k)).2 : Int) := by (unfold cpZ; rw [if_neg hnb])
      have hin0 := dc_in s (rpos s k) (by omega)
      refine TC.skip' ?_
      refine TC.region ?_
      refine TL.run1 (pure_move rfl) rfl ?_
      refine TL.run1 (pure_move rfl) rfl ?_
      refine TL.run1 (pure_add rfl rfl (mkI64 (by omega) (by omega))) rfl ?_
      refine TL.run1 (pure_assign rfl) rfl ?_
      refine TL.nil ?_
      refine block_normal ?_
      have hz : cpZ s (rpos s k) = ((Utf8.decode s (rpos s k)).2 : Int) := by unfold cpZ; rw [if_neg hnb]
      have hst : ((rpos s (k + 1) : Nat) : Int) = (rpos s k : Int) + cpZ s (rpos s k) := by rw [hz, rpos]; omega
      have hin := dc_in s (rpos s k) (by omega)
      have hps := dc_pos s (rpos s k)
      have hrp : rpos s (k + 1) = rpos s k + (Utf8.decode s (rpos s k)).2 := rfl
      refine loop_next (k + 1) ⟨by ((try dsimp only); rw [hst]; repeat (first | exact Agree.nil | refine Agree.cons rfl ?_)), by repeat (first | exact List.nil_sublist _ | exact List.Sublist.refl _ | apply List.Sublist.cons_cons | apply List.Sublist.cons)⟩ ⟨by omega, fun j h => by rcases Nat.lt_or_eq_of_le (Nat.le_of_lt_succ h) with h | h; exact k2 j h; rw [h]; exact hnb⟩ (by omega)
  · try dsimp only at hc10
    refine TC.exit ?_
    refine then_exit ?_
    refine loop_exit ?_
    refine block_here ?_
    refine then_normal ?_
    refine TC.seq ?_
    refine TC.region ?_
    refine TL.run1 (pure_assign rfl) rfl ?_
    refine TL.nil' ?_
    refine TC.ret ?_
    exact ret_int rfl (hv.none (by omega) k2).symm
set_option maxRecDepth 100000 in
theorem Valid_spec (s : ByteArray) (hs : s.size ≤ 1000000000) : Fun Tryd.prog 45 [.v (.string s)] (.v (.bool (okS s))) := by
  obtain ⟨v, hv⟩ := first_exists s
  refine Fun.enter (n := 6) (rs := [.tmp 2]) Tryd.func45 rfl Tryd.ntmps45 Tryd.results45 rfl (fun w F => ?_)
  refine TC.seq ?_
  refine TC.region ?_
  refine TL.run1 (pure_assign rfl) rfl ?_
  refine TL.nil' ?_
  refine TC.seq ?_
  refine TC.region ?_
  refine TL.run1 (pure_move rfl) rfl ?_
  refine TL.run1 (pure_call (First_spec s v hv hs) (.cons rfl .nil) Tryd.call64) rfl ?_
  refine TL.run1 (pure_lss rfl rfl) rfl ?_
  refine TL.run1 (pure_assign rfl) rfl ?_
  refine TL.nil' ?_
  refine TC.ret ?_
  exact ret_bool rfl hv.lt
set_option maxRecDepth 100000 in
theorem At0_spec (s : ByteArray) (hs : s.size ≤ 1000000000) : Fun Tryd.prog 46 [.v (.string s), .v (.int .i64 0)] (.tup [.v (.int .i64 (atP s)), .v (.int .i64 (atZ s)), .v (.int .i64 (atE s))]) := by
  refine Fun.enter (n := 27) (rs := [.tmp 4, .tmp 5, .tmp 6]) Tryd.func46 rfl Tryd.ntmps46 Tryd.results46 rfl (fun w F => ?_)
  refine TC.seq ?_
  refine TC.region ?_
  refine TL.run1 (pure_assign rfl) rfl ?_
  refine TL.run1 (pure_assign rfl) rfl ?_
  refine TL.run1 (pure_assign rfl) rfl ?_
  refine TL.nil' ?_
  refine TC.seq ?_
  refine TC.regionCut [8, 9, 10, 11, 12, 13, 14, 15] 15 ((s.size : Int) ≤ 0) ?_ ?_
  · skip
    refine TL.run1 (pure_move rfl) rfl ?_
    refine TL.run1 (pure_lss rfl rfl) rfl ?_
    refine TL.run1 (pure_move rfl) rfl ?_
    first | refine TL.splitP 10 rfl (fun hg10 => ?_) (fun hg10 => ?_) | refine TL.split 10 rfl (fun hg10 => ?_) (fun hg10 => ?_)
    · try dsimp only at hg10
      refine TL.passG rfl rfl rfl rfl ?_
      refine TL.passG rfl rfl rfl rfl ?_
      refine TL.passG rfl rfl rfl rfl ?_
      refine TL.passG rfl rfl rfl rfl ?_
      refine TL.run1 (pure_pick_true rfl rfl) rfl ?_
      refine TL.cutEnd (by repeat (first | exact Same.refl _ _ | refine Same.put rfl ?_)) rfl ?_
      first | (simp only [decide_eq_true_eq, Bool.false_eq_true, false_iff, true_iff, iff_true, iff_false, Bool.not_eq_true]; omega) | (simp_all; done) | (simp_all; omega) | grind
    · try dsimp only at hg10
      refine TL.runG rfl rfl (pure_move rfl) rfl ?_
      refine TL.runG rfl rfl (pure_move rfl) rfl ?_
      refine TL.runG rfl rfl (pure_len_str Tryd.underlying9 rfl) rfl ?_
      refine TL.runG rfl rfl (pure_geq rfl rfl) rfl ?_
      refine TL.run1 (pure_pick_false rfl rfl) rfl ?_
      refine TL.cutEnd (by repeat (first | exact Same.refl _ _ | refine Same.put rfl ?_)) rfl ?_
      first | (simp only [decide_eq_true_eq, Bool.false_eq_true, false_iff, true_iff, iff_true, iff_false, Bool.not_eq_true]; omega) | (simp_all; done) | (simp_all; omega) | grind
  first | refine TC.condD rfl (fun hc15 => ?_) (fun hc15 => ?_) | refine TC.condN rfl (fun hc15 => ?_) (fun hc15 => ?_) | refine TC.cond rfl (fun hc15 => ?_) (fun hc15 => ?_)
  · try dsimp only at hc15
    have h0 : s.size = 0 := by omega
    refine TC.seq ?_
    refine TC.region ?_
    refine TL.run1 (pure_assign rfl) rfl ?_
    refine TL.run1 (pure_assign rfl) rfl ?_
    refine TL.run1 (pure_assign rfl) rfl ?_
    refine TL.nil' ?_
    refine TC.ret ?_
    refine then_ret ?_
    exact ret3 (.inl rfl) rfl rfl rfl (by unfold atP atZ atE; rw [if_pos h0, if_pos h0, if_pos h0])
  · try dsimp only at hc15
    have h0 : ¬ s.size = 0 := by omega
    refine TC.skip' ?_
    refine TC.seq ?_
    refine TC.region ?_
    refine TL.run1 (pure_move rfl) rfl ?_
    refine TL.run1 (pure_move rfl) rfl ?_
    refine TL.run1 (pure_call (decode_spec s 0 (by omega) hs) (.cons rfl (.cons rfl .nil)) Tryd.call65) rfl ?_
    refine TL.run1 (pure_move rfl) rfl ?_
    refine TL.run1 (pure_extract rfl rfl) rfl ?_
    refine TL.run1 (pure_extract rfl rfl) rfl ?_
    refine TL.run1 (pure_extract rfl rfl) rfl ?_
    refine TL.run1 (pure_assign rfl) rfl ?_
    refine TL.run1 (pure_assign rfl) rfl ?_
    refine TL.run1 (pure_assign rfl) rfl ?_
    refine TL.nil' ?_
    refine TC.seq ?_
    refine TC.seq ?_
    refine TC.region ?_
    refine TL.run1 (pure_move rfl) rfl ?_
    refine TL.run1 (pure_not rfl) rfl ?_
    refine TL.nil' ?_
    first | refine TC.condD rfl (fun hc24 => ?_) (fun hc24 => ?_) | refine TC.condN rfl (fun hc24 => ?_) (fun hc24 => ?_) | refine TC.cond rfl (fun hc24 => ?_) (fun hc24 => ?_)
    · try dsimp only at hc24
      have hbad : BadAt s 0 := by simpa using hc24
      refine TC.seq ?_
      refine TC.region ?_
      refine TL.run1 (pure_assign rfl) rfl ?_
      refine TL.run1 (pure_assign rfl) rfl ?_
      refine TL.run1 (pure_assign rfl) rfl ?_
      refine TL.nil' ?_
      refine TC.ret ?_
      refine then_ret ?_
      exact ret3 (.inl rfl) rfl rfl rfl (by rw [atP_bad h0 hbad]; unfold atZ atE; rw [if_neg h0, if_neg h0, if_pos hbad, if_pos hbad])
    · try dsimp only at hc24
      have hnb : ¬ BadAt s 0 := by simpa using hc24
      refine TC.skip' ?_
      refine TC.seq ?_
      refine TC.region ?_
      refine TL.run1 (pure_move rfl) rfl ?_
      refine TL.run1 (pure_move rfl) rfl ?_
      refine TL.run1 (pure_assign rfl) rfl ?_
      refine TL.run1 (pure_assign rfl) rfl ?_
      refine TL.run1 (pure_assign rfl) rfl ?_
      refine TL.nil' ?_
      refine TC.ret ?_
      exact ret3 (.inl rfl) rfl rfl rfl (by unfold atP atZ atE; rw [if_neg h0, if_neg h0, if_neg h0, if_neg hnb, if_neg hnb])
end Go.Ob
