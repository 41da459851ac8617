import Derived.Test.YtcmkgijekibdaaaObL
import Derived.Test.YtcmkgijekibdaaaTy
set_option linter.unusedVariables false
set_option linter.unusedSimpArgs false
namespace Go.Ob
open Go.Proofs

/-! ### plain: three-way comparison, the first place at which a sorted list is not below a number -/
def cmpI (a b : Int) : Int := if a < b then -1 else if b < a then 1 else 0
theorem cmpI_neg (a b : Int) : cmpI a b < 0 ↔ a < b := by
  unfold cmpI; repeat' split
  all_goals omega
theorem cmpI_zero (a b : Int) : cmpI a b = 0 ↔ a = b := by
  unfold cmpI; repeat' split
  all_goals omega
def lbI (ks : List Int) (t : Int) : Nat := (ks.takeWhile (· < t)).length
def kAt (ks : List Int) (i : Nat) : Int := ks.getD i 0
def Inc (ks : List Int) : Prop := ks.Pairwise (· < ·)
theorem Inc.lt {ks : List Int} (h : Inc ks) {i j : Nat} (hij : i < j) (hj : j < ks.length) : kAt ks i < kAt ks j := by
  have := List.pairwise_iff_getElem.1 h i j (by omega) hj hij
  simpa [kAt, List.getD_eq_getElem?_getD, hj, show i < ks.length by omega] using this
theorem lbI_eq (ks : List Int) (t : Int) : ∀ (i : Nat), i ≤ ks.length → (∀ j, j < i → kAt ks j < t) → (i < ks.length → t ≤ kAt ks i) → lbI ks t = i := by
  unfold lbI
  induction ks with
  | nil => intro i hi _ _; simp at hi; simp [hi]
  | cons k ks ih =>
    intro i hi h1 h2
    cases i with
    | zero =>
      have := h2 (by simp)
      simp only [kAt, List.getD_cons_zero] at this
      simp [show ¬ k < t by omega]
    | succ i =>
      have h0 := h1 0 (by omega)
      simp only [kAt, List.getD_cons_zero] at h0
      rw [List.takeWhile_cons, if_pos (by simpa using h0), List.length_cons]
      rw [ih i (by simpa using hi) (fun j hj => by simpa [kAt] using h1 (j + 1) (by omega)) (fun hl => by simpa [kAt] using h2 (by simpa using hl))]
theorem lbI_le (ks : List Int) (t : Int) : lbI ks t ≤ ks.length := by
  unfold lbI
  exact (List.takeWhile_prefix _).length_le
def inI (ks : List Int) (t : Int) : Bool := decide (lbI ks t < ks.length ∧ kAt ks (lbI ks t) = t)

/-! ### lists of properties -/
def encP (ps : List (Int × Int)) : List (List D) := ps.map fun p => [.v (.int .i64 p.1), .v (.int .i64 p.2)]
theorem encP_len (ps : List (Int × Int)) : (encP ps).length = ps.length := by simp [encP]
def pAt (ps : List (Int × Int)) (i : Int) : Int × Int := ps.getD i.toNat (0, 0)
theorem encP_get (ps : List (Int × Int)) (i : Int) (h0 : 0 ≤ i) (h1 : i < ps.length) : (encP ps)[i.toNat]? = some [.v (.int .i64 (pAt ps i).1), .v (.int .i64 (pAt ps i).2)] := by
  have : i.toNat < ps.length := by omega
  simp [encP, pAt, this]
def keysP (ps : List (Int × Int)) : List Int := ps.map (·.1)
theorem keysP_len (ps : List (Int × Int)) : (keysP ps).length = ps.length := by simp [keysP]
theorem kAt_keysP (ps : List (Int × Int)) (i : Nat) (h : i < ps.length) : kAt (keysP ps) i = (pAt ps i).1 := by simp [kAt, keysP, pAt, h]
def getP : List (Int × Int) → Int → Int → Int
  | [], _, dflt => dflt
  | (k, v) :: ps, key, dflt => if k = key then v else getP ps key dflt
def hasP (ps : List (Int × Int)) (key : Int) : Bool := ps.any (·.1 == key)
theorem getP_drop (ps : List (Int × Int)) (i : Int) (h0 : 0 ≤ i) (h1 : i < ps.length) (key dflt : Int) :
    getP (ps.drop i.toNat) key dflt = if (pAt ps i).1 = key then (pAt ps i).2 else getP (ps.drop (i + 1).toNat) key dflt := by
  have hl : i.toNat < ps.length := by omega
  rw [List.drop_eq_getElem_cons hl, show (i + 1).toNat = i.toNat + 1 by omega]
  simp [getP, pAt, hl]
/-- the place of a key in an ordered list, and what lies there -/
theorem getP_lb (ps : List (Int × Int)) (key dflt : Int) (hinc : Inc (keysP ps)) : getP ps key dflt = if inI (keysP ps) key = true then (pAt ps (lbI (keysP ps) key)).2 else dflt := by
  induction ps with
  | nil => simp [getP, inI, keysP]
  | cons p ps ih =>
    obtain ⟨k, v⟩ := p
    have ih := ih (List.pairwise_cons.1 hinc).2
    by_cases hk : k < key
    · have e1 : lbI (keysP ((k, v) :: ps)) key = lbI (keysP ps) key + 1 := by simp [lbI, keysP, hk]
      have e2 : inI (keysP ((k, v) :: ps)) key = inI (keysP ps) key := by
        unfold inI; rw [e1]; simp [keysP, kAt]
      rw [e2, getP, if_neg (by omega), ih]
      by_cases h : inI (keysP ps) key = true
      · rw [if_pos h, if_pos h, e1]
        unfold pAt
        rw [Int.toNat_natCast, Int.toNat_natCast, List.getD_cons_succ]
      · rw [if_neg h, if_neg h]
    · have e1 : lbI (keysP ((k, v) :: ps)) key = 0 := by simp [lbI, keysP, hk]
      have e2 : inI (keysP ((k, v) :: ps)) key = decide (k = key) := by
        unfold inI; rw [e1]; simp [keysP, kAt]
      rw [e2, getP]
      by_cases h : k = key
      · rw [if_pos h, if_pos (by simpa using h), e1]; rfl
      · rw [if_neg h]
        simp only [h, decide_false, Bool.false_eq_true, if_false]
        have : ∀ (qs : List (Int × Int)), (∀ q ∈ qs, key < q.1) → getP qs key dflt = dflt := by
          intro qs
          induction qs with
          | nil => intro _; rfl
          | cons q qs ihq => intro hq; rw [getP, if_neg (by have := hq q (by simp); omega)]; exact ihq fun q' hq' => hq q' (by simp [hq'])
        refine this ps fun q hq => ?_
        have : k < q.1 := (List.pairwise_cons.1 hinc).1 q.1 (List.mem_map.2 ⟨q, hq, rfl⟩)
        omega
set_option maxRecDepth 100000 in
theorem isNaN_spec (x : Int) : Fun Try.prog 99 [.v (.int .i64 x)] (.v (.bool false)) := by
  refine Fun.enter (n := 6) (rs := [.tmp 2]) Try.func99 rfl Try.ntmps99 Try.results99 rfl (fun w F => ?_)
  refine TC.seq ?_; refine TC.region ?_; refine TL.run1 (pure_assign rfl) rfl ?_; refine TL.nil' ?_; refine TC.seq ?_; refine TC.region ?_; refine TL.run1 (pure_move rfl) rfl ?_; refine TL.run1 (pure_move rfl) rfl ?_; refine TL.run1 (pure_neq rfl rfl) rfl ?_; refine TL.run1 (pure_assign rfl) rfl ?_; refine TL.nil' ?_; refine TC.ret ?_
  exact ret_bool rfl (by simp)
set_option maxRecDepth 100000 in
theorem compare_spec (x y : Int) : Fun Try.prog 92 [.v (.int .i64 x), .v (.int .i64 y)] (.v (.int .i64 (cmpI x y))) := by
  refine Fun.enter (n := 20) (rs := [.tmp 4]) Try.func92 rfl Try.ntmps92 Try.results92 rfl (fun w F => ?_)
  refine TC.seq ?_; refine TC.region ?_; refine TL.run1 (pure_assign rfl) rfl ?_; refine TL.nil' ?_; refine TC.seq ?_; refine TC.region ?_; refine TL.run1 (pure_move rfl) rfl ?_; refine TL.run1 (pure_call (isNaN_spec _) (.cons rfl .nil) Try.call99) rfl ?_; refine TL.run1 (pure_assign rfl) rfl ?_; refine TL.nil' ?_; refine TC.seq ?_; refine TC.region ?_; refine TL.run1 (pure_move rfl) rfl ?_; refine TL.run1 (pure_call (isNaN_spec _) (.cons rfl .nil) Try.call99) rfl ?_; refine TL.run1 (pure_assign rfl) rfl ?_; refine TL.nil' ?_; refine TC.seq ?_; refine TC.seq ?_; refine TC.region ?_; refine TL.run1 (pure_move rfl) rfl ?_; refine TL.nil' ?_
  first | refine TC.condD rfl (fun hc11 => ?_) (fun hc11 => ?_) | refine TC.condN rfl (fun hc11 => ?_) (fun hc11 => ?_) | refine TC.cond rfl (fun hc11 => ?_) (fun hc11 => ?_)
  · try dsimp only at hc11
    refine TC.seq ?_; refine TC.seq ?_; refine TC.region ?_; refine TL.run1 (pure_move rfl) rfl ?_; refine TL.nil' ?_
    first | refine TC.condD rfl (fun hc12 => ?_) (fun hc12 => ?_) | refine TC.condN rfl (fun hc12 => ?_) (fun hc12 => ?_) | refine TC.cond rfl (fun hc12 => ?_) (fun hc12 => ?_)
    · try dsimp only at hc12
      refine TC.seq ?_; refine TC.region ?_; refine TL.run1 (pure_assign rfl) rfl ?_; refine TL.nil' ?_; refine TC.ret ?_; refine then_ret ?_; refine then_ret ?_
      first | (exact absurd ‹false = true› (by simp)) | exact ret_int rfl (by unfold cmpI; first | rw [if_pos ‹_›] | rw [if_neg ‹_›, if_pos ‹_›] | rw [if_neg ‹_›, if_neg ‹_›])
    · try dsimp only at hc12
      refine TC.skip' ?_; refine TC.seq ?_; refine TC.region ?_; refine TL.run1 (pure_assign rfl) rfl ?_; refine TL.nil' ?_; refine TC.ret ?_; refine then_ret ?_
      first | (exact absurd ‹false = true› (by simp)) | exact ret_int rfl (by unfold cmpI; first | rw [if_pos ‹_›] | rw [if_neg ‹_›, if_pos ‹_›] | rw [if_neg ‹_›, if_neg ‹_›])
  · try dsimp only at hc11
    refine TC.skip' ?_; refine TC.seq ?_; refine TC.seq ?_; refine TC.region ?_; refine TL.run1 (pure_move rfl) rfl ?_; refine TL.nil' ?_
    first | refine TC.condD rfl (fun hc13 => ?_) (fun hc13 => ?_) | refine TC.condN rfl (fun hc13 => ?_) (fun hc13 => ?_) | refine TC.cond rfl (fun hc13 => ?_) (fun hc13 => ?_)
    · try dsimp only at hc13
      refine TC.seq ?_; refine TC.region ?_; refine TL.run1 (pure_assign rfl) rfl ?_; refine TL.nil' ?_; refine TC.ret ?_; refine then_ret ?_
      first | (exact absurd ‹false = true› (by simp)) | exact ret_int rfl (by unfold cmpI; first | rw [if_pos ‹_›] | rw [if_neg ‹_›, if_pos ‹_›] | rw [if_neg ‹_›, if_neg ‹_›])
    · try dsimp only at hc13
      refine TC.skip' ?_; refine TC.seq ?_; refine TC.seq ?_; refine TC.region ?_; refine TL.run1 (pure_move rfl) rfl ?_; refine TL.run1 (pure_move rfl) rfl ?_; refine TL.run1 (pure_lss rfl rfl) rfl ?_; refine TL.nil' ?_
      first | refine TC.condD rfl (fun hc16 => ?_) (fun hc16 => ?_) | refine TC.condN rfl (fun hc16 => ?_) (fun hc16 => ?_) | refine TC.cond rfl (fun hc16 => ?_) (fun hc16 => ?_)
      · try dsimp only at hc16
        refine TC.seq ?_; refine TC.region ?_; refine TL.run1 (pure_assign rfl) rfl ?_; refine TL.nil' ?_; refine TC.ret ?_; refine then_ret ?_
        first | (exact absurd ‹false = true› (by simp)) | exact ret_int rfl (by unfold cmpI; first | rw [if_pos ‹_›] | rw [if_neg ‹_›, if_pos ‹_›] | rw [if_neg ‹_›, if_neg ‹_›])
      · try dsimp only at hc16
        refine TC.skip' ?_; refine TC.seq ?_; refine TC.seq ?_; refine TC.region ?_; refine TL.run1 (pure_move rfl) rfl ?_; refine TL.run1 (pure_move rfl) rfl ?_; refine TL.run1 (pure_gtr rfl rfl) rfl ?_; refine TL.nil' ?_
        first | refine TC.condD rfl (fun hc19 => ?_) (fun hc19 => ?_) | refine TC.condN rfl (fun hc19 => ?_) (fun hc19 => ?_) | refine TC.cond rfl (fun hc19 => ?_) (fun hc19 => ?_)
        · try dsimp only at hc19
          refine TC.seq ?_; refine TC.region ?_; refine TL.run1 (pure_assign rfl) rfl ?_; refine TL.nil' ?_; refine TC.ret ?_; refine then_ret ?_
          first | (exact absurd ‹false = true› (by simp)) | exact ret_int rfl (by unfold cmpI; first | rw [if_pos ‹_›] | rw [if_neg ‹_›, if_pos ‹_›] | rw [if_neg ‹_›, if_neg ‹_›])
        · try dsimp only at hc19
          refine TC.skip' ?_; refine TC.seq ?_; refine TC.region ?_; refine TL.run1 (pure_assign rfl) rfl ?_; refine TL.nil' ?_; refine TC.ret ?_
          first | (exact absurd ‹false = true› (by simp)) | exact ret_int rfl (by unfold cmpI; first | rw [if_pos ‹_›] | rw [if_neg ‹_›, if_pos ‹_›] | rw [if_neg ‹_›, if_neg ‹_›])
set_option maxRecDepth 100000 in
theorem search1_spec (k v t : Int) : Fun Try.prog 91 [.agg [.v (.int .i64 k), .v (.int .i64 v)], .v (.int .i64 t)] (.v (.int .i64 (cmpI k t))) := by
  refine Fun.enter (n := 9) (rs := [.tmp 4]) Try.func91 rfl Try.ntmps91 Try.results91 rfl (fun w F => ?_)
  refine TC.seq ?_; refine TC.region ?_
  refine TL.box rfl (.agg _) rfl (fun g2 => ?_)
  refine TL.run1 (pure_assign rfl) rfl ?_; refine TL.nil' ?_; refine TC.seq ?_; refine TC.region ?_
  first | refine TL.run1 (pure_fieldAddr Ty.f38_0 rfl (.zero _) (List.cons_ne_nil _ _)) rfl ?_ | refine TL.run1 (pure_fieldAddr_own Ty.f38_0 rfl) rfl ?_
  first | refine TL.run1 (pure_load1 Ty.one3 rfl) rfl ?_ | refine TL.run1 (pure_load1_own Ty.one3 rfl (by repeat (first | exact List.Mem.head _ | apply List.Mem.tail)) (by repeat (first | exact DropR.zero _ | apply DropR.succ))) rfl ?_
  refine TL.run1 (pure_move rfl) rfl ?_; refine TL.run1 (pure_call (compare_spec _ _) (.cons rfl (.cons rfl .nil)) Try.call92) rfl ?_; refine TL.run1 (pure_assign rfl) rfl ?_; refine TL.nil' ?_; refine TC.ret ?_
  exact ret_int rfl rfl
set_option maxRecDepth 100000 in
theorem bsP_spec (ps : List (Int × Int)) (t : Int) (hinc : Inc (keysP ps)) (hl : ps.length ≤ 1000000) : Fun Try.prog 90 [.sl 2 (encP ps), .v (.int .i64 t), .fn 91 []] (.tup [.v (.int .i64 (lbI (keysP ps) t)), .v (.bool (inI (keysP ps) t))]) := by
  have hk1 := encP_len ps
  have hk2 := keysP_len ps
  refine Fun.enter (n := 49) (rs := [.tmp 6, .tmp 7]) Try.func90 rfl Try.ntmps90 Try.results90 rfl (fun w F => ?_)
  refine TC.seq ?_; refine TC.region ?_; refine TL.run1 (pure_assign rfl) rfl ?_; refine TL.run1 (pure_assign rfl) rfl ?_; refine TL.nil' ?_; refine TC.seq ?_; refine TC.region ?_; refine TL.run1 (pure_move rfl) rfl ?_
  first | refine TL.run1 (pure_len Ty.sl26 rfl) rfl ?_ | refine TL.run1 (pure_len_row Ty.sl26 rfl (by repeat (first | exact List.Mem.head _ | apply List.Mem.tail))) rfl ?_ | refine TL.run1 (pure_len_nil Ty.sl26 rfl) rfl ?_
  refine TL.run1 (pure_assign rfl) rfl ?_; refine TL.nil' ?_; refine TC.seq ?_; refine TC.region ?_; refine TL.run1 (pure_move rfl) rfl ?_; refine TL.run1 (pure_assign rfl) rfl ?_; refine TL.run1 (pure_assign rfl) rfl ?_; refine TL.nil' ?_; refine TC.seq ?_; refine TC.block ?_; refine TC.loopX (X := Int × Int) (fun x => [(0, .sl 2 (encP ps)), (1, .v (.int .i64 t)), (2, .fn 91 []), (8, .v (.int .i64 (encP ps).length)), (9, .v (.int .i64 x.1)), (10, .v (.int .i64 x.2))]) (fun _ => []) (fun x => 0 ≤ x.1 ∧ x.1 ≤ x.2 ∧ x.2 ≤ (keysP ps).length ∧ (∀ j : Nat, j < x.1.toNat → kAt (keysP ps) j < t) ∧ (∀ j : Nat, x.2.toNat ≤ j → j < (keysP ps).length → t ≤ kAt (keysP ps) j)) (fun x => (x.2 - x.1).toNat) (0, (encP ps).length) ⟨by skip; repeat (first | exact Agree.nil | refine Agree.cons rfl ?_), by skip; repeat (first | exact List.nil_sublist _ | exact List.Sublist.refl _ | apply List.Sublist.cons_cons | apply List.Sublist.cons)⟩ ?_ ?_
  · skip
    exact ⟨by omega, by omega, by omega, fun j hj => by simp at hj, fun j h1 h2 => by simp at h1; omega⟩
  rintro ⟨i, j⟩ ⟨h0, h1, h2, h3, h4⟩
  dsimp only at h0 h1 h2 h3 h4
  refine TC.seq ?_; refine TC.seq ?_; refine TC.region ?_; refine TL.run1 (pure_move rfl) rfl ?_; refine TL.run1 (pure_move rfl) rfl ?_; refine TL.run1 (pure_lss rfl rfl) rfl ?_; refine TL.nil' ?_
  first | refine TC.condD rfl (fun hc17 => ?_) (fun hc17 => ?_) | refine TC.condN rfl (fun hc17 => ?_) (fun hc17 => ?_) | refine TC.cond rfl (fun hc17 => ?_) (fun hc17 => ?_)
  · try dsimp only at hc17
    refine TC.skip' ?_; refine TC.block ?_; refine TC.seq ?_; refine TC.region ?_; refine TL.run1 (pure_move rfl) rfl ?_; refine TL.run1 (pure_move rfl) rfl ?_; refine TL.run1 (pure_add rfl rfl (mkI64 (by omega) (by omega))) rfl ?_; refine TL.run1 (pure_conv Try.underlying3 Try.underlying119 rfl (fit_u64 (by omega) (by omega))) rfl ?_; refine TL.run1 (pure_shrl (m := 2) (by rfl) rfl rfl (by decide) (by decide)) rfl ?_; refine TL.run1 (pure_conv Try.underlying119 Try.underlying3 rfl (fit_i64 (by omega) (by omega))) rfl ?_; refine TL.run1 (pure_assign rfl) rfl ?_; refine TL.nil' ?_; refine TC.seq ?_
    have hb : 0 ≤ (i + j) / 2 ∧ (i + j) / 2 < j ∧ i ≤ (i + j) / 2 := by omega
    have hrow := encP_get ps ((i + j) / 2) (by omega) (by omega)
    have hka := kAt_keysP ps (((i + j) / 2)).toNat (by omega)
    rw [show (((((i + j) / 2)).toNat : Nat) : Int) = ((i + j) / 2) by omega] at hka
    rw [← hka] at hrow
    refine TC.region ?_; refine TL.run1 (pure_move rfl) rfl ?_; refine TL.run1 (pure_move rfl) rfl ?_; refine TL.run1 (pure_move rfl) rfl ?_; refine TL.run1 (pure_indexAddr Ty.sl26 rfl rfl (by omega) (by assumption) (List.cons_ne_nil _ _)) rfl ?_
    first | refine TL.run1 (pure_load Ty.agg38 rfl (.succ (.succ (.zero _)))) rfl ?_ | refine TL.run1 (pure_load_own Ty.agg38 rfl (by repeat (first | exact List.Mem.head _ | apply List.Mem.tail)) (by repeat (first | exact DropR.zero _ | apply DropR.succ)) (.succ (.succ (.zero _)))) rfl ?_
    refine TL.run1 (pure_move rfl) rfl ?_; refine TL.run1 (pure_callv rfl (search1_spec _ _ _) (.cons rfl (.cons rfl .nil)) Try.call91) rfl ?_; refine TL.run1 (pure_lss rfl rfl) rfl ?_; refine TL.nil' ?_
    first | refine TC.condD rfl (fun hc31 => ?_) (fun hc31 => ?_) | refine TC.condN rfl (fun hc31 => ?_) (fun hc31 => ?_) | refine TC.cond rfl (fun hc31 => ?_) (fun hc31 => ?_)
    · try dsimp only at hc31
      have hm : ((i + j) / 2).toNat < (keysP ps).length := by omega
      refine TC.region ?_; refine TL.run1 (pure_move rfl) rfl ?_; refine TL.run1 (pure_add rfl rfl (mkI64 (by omega) (by omega))) rfl ?_; refine TL.run1 (pure_assign rfl) rfl ?_; refine TL.nil ?_; refine block_normal ?_
      first
        | (refine loop_next ((i + j) / 2 + 1, j) ⟨by repeat (first | exact Agree.nil | refine Agree.cons rfl ?_), by repeat (first | exact List.nil_sublist _ | exact List.Sublist.refl _ | apply List.Sublist.cons_cons | apply List.Sublist.cons)⟩ ⟨by omega, by omega, by omega, fun m hm1 => ?_, h4⟩ (by dsimp only; omega)
           have hq := (cmpI_neg _ _).1 hc31
           try rw [← hka] at hq
           rcases Nat.lt_or_ge m ((i + j) / 2).toNat with h | h
           · exact Int.lt_trans (hinc.lt h hm) hq
           · rw [show m = ((i + j) / 2).toNat by dsimp only at hm1; omega]; exact hq)
        | (refine loop_next (i, (i + j) / 2) ⟨by repeat (first | exact Agree.nil | refine Agree.cons rfl ?_), by repeat (first | exact List.nil_sublist _ | exact List.Sublist.refl _ | apply List.Sublist.cons_cons | apply List.Sublist.cons)⟩ ⟨by omega, by omega, by omega, h3, fun m hm1 hm2 => ?_⟩ (by dsimp only; omega)
           have hq : t ≤ kAt (keysP ps) ((i + j) / 2).toNat := by (have := mt (cmpI_neg _ _).2 hc31; (try rw [← hka] at this); omega)
           rcases Nat.eq_or_lt_of_le hm1 with h | h
           · rw [← h]; exact hq
           · exact Int.le_trans hq (Int.le_of_lt (hinc.lt h hm2)))
    · try dsimp only at hc31
      have hm : ((i + j) / 2).toNat < (keysP ps).length := by omega
      refine TC.region ?_; refine TL.run1 (pure_move rfl) rfl ?_; refine TL.run1 (pure_assign rfl) rfl ?_; refine TL.nil ?_; refine block_normal ?_
      first
        | (refine loop_next ((i + j) / 2 + 1, j) ⟨by repeat (first | exact Agree.nil | refine Agree.cons rfl ?_), by repeat (first | exact List.nil_sublist _ | exact List.Sublist.refl _ | apply List.Sublist.cons_cons | apply List.Sublist.cons)⟩ ⟨by omega, by omega, by omega, fun m hm1 => ?_, h4⟩ (by dsimp only; omega)
           have hq := (cmpI_neg _ _).1 hc31
           try rw [← hka] at hq
           rcases Nat.lt_or_ge m ((i + j) / 2).toNat with h | h
           · exact Int.lt_trans (hinc.lt h hm) hq
           · rw [show m = ((i + j) / 2).toNat by dsimp only at hm1; omega]; exact hq)
        | (refine loop_next (i, (i + j) / 2) ⟨by repeat (first | exact Agree.nil | refine Agree.cons rfl ?_), by repeat (first | exact List.nil_sublist _ | exact List.Sublist.refl _ | apply List.Sublist.cons_cons | apply List.Sublist.cons)⟩ ⟨by omega, by omega, by omega, h3, fun m hm1 hm2 => ?_⟩ (by dsimp only; omega)
           have hq : t ≤ kAt (keysP ps) ((i + j) / 2).toNat := by (have := mt (cmpI_neg _ _).2 hc31; (try rw [← hka] at this); omega)
           rcases Nat.eq_or_lt_of_le hm1 with h | h
           · rw [← h]; exact hq
           · exact Int.le_trans hq (Int.le_of_lt (hinc.lt h hm2)))
  · try dsimp only at hc17
    have hij : i = j := by omega
    subst hij
    have hlb : lbI (keysP ps) t = i.toNat := lbI_eq _ _ _ (by omega) h3 (fun hl => h4 _ (by omega) hl)
    refine TC.exit ?_; refine then_exit ?_; refine loop_exit ?_; refine block_here ?_; refine then_normal ?_; refine TC.seq ?_; refine TC.region ?_; refine TL.run1 (pure_move rfl) rfl ?_; refine TL.run1 (pure_move rfl) rfl ?_; refine TL.run1 (pure_move rfl) rfl ?_; refine TL.run1 (pure_lss rfl rfl) rfl ?_; refine TL.run1 (pure_move rfl) rfl ?_
    first | refine TL.splitP 39 rfl (fun hg39 => ?_) (fun hg39 => ?_) | refine TL.split 39 rfl (fun hg39 => ?_) (fun hg39 => ?_)
    · try dsimp only at hg39
      have hrow := encP_get ps i (by omega) (by omega)
      have hka := kAt_keysP ps (i).toNat (by omega)
      rw [show (((i).toNat : Nat) : Int) = i by omega] at hka
      rw [← hka] at hrow
      refine TL.runG rfl rfl (pure_move rfl) rfl ?_; refine TL.runG rfl rfl (pure_move rfl) rfl ?_; refine TL.runG rfl rfl (pure_move rfl) rfl ?_; refine TL.runG rfl rfl (pure_indexAddr Ty.sl26 rfl rfl (by omega) (by assumption) (List.cons_ne_nil _ _)) rfl ?_
      first | refine TL.runG rfl rfl (pure_load Ty.agg38 rfl (.succ (.succ (.zero _)))) rfl ?_ | refine TL.runG rfl rfl (pure_load_own Ty.agg38 rfl (by repeat (first | exact List.Mem.head _ | apply List.Mem.tail)) (by repeat (first | exact DropR.zero _ | apply DropR.succ)) (.succ (.succ (.zero _)))) rfl ?_
      refine TL.runG rfl rfl (pure_move rfl) rfl ?_; refine TL.runG rfl rfl (pure_callv rfl (search1_spec _ _ _) (.cons rfl (.cons rfl .nil)) Try.call91) rfl ?_; refine TL.runG rfl rfl (pure_eql rfl rfl) rfl ?_; refine TL.run1 (pure_pick_true rfl rfl) rfl ?_; refine TL.run1 (pure_assign rfl) rfl ?_; refine TL.run1 (pure_assign rfl) rfl ?_; refine TL.nil' ?_; refine TC.ret ?_; refine ret2 (.inl rfl) rfl rfl ?_
      rw [hlb, show ((i.toNat : Nat) : Int) = i by omega]; unfold inI; rw [hlb]
      by_cases hx : i.toNat < (keysP ps).length
      · try rw [← hka]
        simp [cmpI_zero, hx]
        try (exfalso; omega)
      · simp [hx]
        try (exfalso; omega)
    · try dsimp only at hg39
      refine TL.passG rfl rfl rfl rfl ?_; refine TL.passG rfl rfl rfl rfl ?_; refine TL.passG rfl rfl rfl rfl ?_; refine TL.passG rfl rfl rfl rfl ?_; refine TL.passG rfl rfl rfl rfl ?_; refine TL.passG rfl rfl rfl rfl ?_; refine TL.passG rfl rfl rfl rfl ?_; refine TL.passG rfl rfl rfl rfl ?_; refine TL.run1 (pure_pick_false rfl rfl) rfl ?_; refine TL.run1 (pure_assign rfl) rfl ?_; refine TL.run1 (pure_assign rfl) rfl ?_; refine TL.nil' ?_; refine TC.ret ?_; refine ret2 (.inl rfl) rfl rfl ?_
      rw [hlb, show ((i.toNat : Nat) : Int) = i by omega]; unfold inI; rw [hlb]
      by_cases hx : i.toNat < (keysP ps).length
      · try rw [← hka]
        simp [cmpI_zero, hx]
        try (exfalso; omega)
      · simp [hx]
        try (exfalso; omega)
set_option maxRecDepth 100000 in
theorem searchP_spec (ps : List (Int × Int)) (t : Int) (hinc : Inc (keysP ps)) (hl : ps.length ≤ 1000000) : Fun Try.prog 82 [.sl 2 (encP ps), .v (.int .i64 t)] (.tup [.v (.int .i64 (lbI (keysP ps) t)), .v (.bool (inI (keysP ps) t))]) := by
  refine Fun.enter (n := 11) (rs := [.tmp 4, .tmp 5]) Try.func82 rfl Try.ntmps82 Try.results82 rfl (fun w F => ?_)
  refine TC.seq ?_; refine TC.region ?_; refine TL.run1 (pure_assign rfl) rfl ?_; refine TL.run1 (pure_assign rfl) rfl ?_; refine TL.nil' ?_; refine TC.seq ?_; refine TC.region ?_; refine TL.run1 (pure_move rfl) rfl ?_; refine TL.run1 (pure_move rfl) rfl ?_; refine TL.run1 (pure_call (bsP_spec _ _ hinc hl) (.cons rfl (.cons rfl (.cons rfl .nil))) Try.call90) rfl ?_; refine TL.run1 (pure_extract rfl rfl) rfl ?_; refine TL.run1 (pure_extract rfl rfl) rfl ?_; refine TL.run1 (pure_assign rfl) rfl ?_; refine TL.run1 (pure_assign rfl) rfl ?_; refine TL.nil' ?_; refine TC.ret ?_
  exact ret2 (.inl rfl) rfl rfl rfl
set_option maxRecDepth 100000 in
theorem getPr_spec (ps : List (Int × Int)) (t : Int) (hinc : Inc (keysP ps)) (hl : ps.length ≤ 1000000) : Fun Try.prog 66 [.sl 2 (encP ps), .v (.int .i64 t)] (.tup [.v (.int .i64 (getP ps t 0)), .v (.bool (inI (keysP ps) t))]) := by
  refine Fun.enter (n := 21) (rs := [.tmp 4, .tmp 5]) Try.func66 rfl Try.ntmps66 Try.results66 rfl (fun w F => ?_)
  refine TC.seq ?_; refine TC.region ?_; refine TL.run1 (pure_assign rfl) rfl ?_; refine TL.run1 (pure_assign rfl) rfl ?_; refine TL.nil' ?_; refine TC.seq ?_; refine TC.region ?_; refine TL.run1 (pure_move rfl) rfl ?_; refine TL.run1 (pure_move rfl) rfl ?_; refine TL.run1 (pure_call (searchP_spec _ _ hinc hl) (.cons rfl (.cons rfl .nil)) Try.call82) rfl ?_; refine TL.run1 (pure_move rfl) rfl ?_; refine TL.run1 (pure_extract rfl rfl) rfl ?_; refine TL.run1 (pure_extract rfl rfl) rfl ?_; refine TL.run1 (pure_assign rfl) rfl ?_; refine TL.run1 (pure_assign rfl) rfl ?_; refine TL.nil' ?_; refine TC.seq ?_; refine TC.seq ?_; refine TC.region ?_; refine TL.run1 (pure_move rfl) rfl ?_; refine TL.run1 (pure_not rfl) rfl ?_; refine TL.nil' ?_
  first | refine TC.condD rfl (fun hc15 => ?_) (fun hc15 => ?_) | refine TC.condN rfl (fun hc15 => ?_) (fun hc15 => ?_) | refine TC.cond rfl (fun hc15 => ?_) (fun hc15 => ?_)
  · try dsimp only at hc15
    have hin : inI (keysP ps) t = false := decide_eq_false hc15
    refine TC.seq ?_; refine TC.region ?_; refine TL.run1 (pure_assign rfl) rfl ?_; refine TL.run1 (pure_assign rfl) rfl ?_; refine TL.nil' ?_; refine TC.ret ?_; refine then_ret ?_
    exact ret2 (.inl rfl) rfl rfl (by rw [getP_lb ps t 0 hinc, hin]; rfl)
  · try dsimp only at hc15
    have hin : inI (keysP ps) t = true := decide_eq_true hc15
    have hlt : lbI (keysP ps) t < ps.length := by have := hin; unfold inI at this; simp [keysP_len] at this; exact this.1
    have hrow := encP_get ps (lbI (keysP ps) t) (by omega) (by omega)
    refine TC.skip' ?_; refine TC.seq ?_; refine TC.region ?_; refine TL.run1 (pure_move rfl) rfl ?_; refine TL.run1 (pure_move rfl) rfl ?_; refine TL.run1 (pure_indexAddr Ty.sl26 rfl rfl (by omega) (by assumption) (List.cons_ne_nil _ _)) rfl ?_
    first | refine TL.run1 (pure_fieldAddr Ty.f38_1 rfl (.succ (.zero _)) (List.cons_ne_nil _ _)) rfl ?_ | refine TL.run1 (pure_fieldAddr_own Ty.f38_1 rfl) rfl ?_
    first | refine TL.run1 (pure_load1 Ty.one3 rfl) rfl ?_ | refine TL.run1 (pure_load1_own Ty.one3 rfl (by repeat (first | exact List.Mem.head _ | apply List.Mem.tail)) (by repeat (first | exact DropR.zero _ | apply DropR.succ))) rfl ?_
    refine TL.run1 (pure_assign rfl) rfl ?_; refine TL.run1 (pure_assign rfl) rfl ?_; refine TL.nil' ?_; refine TC.ret ?_
    exact ret2 (.inl rfl) rfl rfl (by rw [getP_lb ps t 0 hinc, hin]; rfl)

/-! ### the table of keys -/
structure KeyE where
  num : Int
  group : Int
  low : Int
  high : Int
  std : Int
  name : ByteArray
def encK1 (k : KeyE) : List D := [.v (.int .i64 k.num), .v (.int .i64 k.group), .v (.int .i64 k.low), .v (.int .i64 k.high), .v (.int .i64 k.std), .v (.string k.name)]
def encK (t : List KeyE) : List (List D) := t.map encK1
def keysK (t : List KeyE) : List Int := t.map (·.num)
def kE0 : KeyE := ⟨0, 0, 0, 0, 0, ⟨#[]⟩⟩
def eAt (t : List KeyE) (i : Int) : KeyE := t.getD i.toNat kE0
theorem encK_len (t : List KeyE) : (encK t).length = t.length := by simp [encK]
theorem keysK_len (t : List KeyE) : (keysK t).length = t.length := by simp [keysK]
theorem encK_get (t : List KeyE) (i : Int) (h0 : 0 ≤ i) (h1 : i < t.length) : (encK t)[i.toNat]? = some (encK1 (eAt t i)) := by
  have : i.toNat < t.length := by omega
  simp [encK, eAt, this]
theorem kAt_keysK (t : List KeyE) (i : Nat) (h : i < t.length) : kAt (keysK t) i = (eAt t i).num := by simp [kAt, keysK, eAt, h]
def tableK : List KeyE := [
  ⟨1, 1, 0, 1073741824, 0, ⟨#[99, 104, 97, 114, 97, 99, 116, 101, 114, 45, 115, 116, 121, 108, 101]⟩⟩,
  ⟨2, 1, 0, 1, 0, ⟨#[98, 111, 108, 100]⟩⟩,
  ⟨3, 1, 0, 1, 0, ⟨#[105, 116, 97, 108, 105, 99]⟩⟩,
  ⟨4, 1, 0, 3, 0, ⟨#[117, 110, 100, 101, 114, 108, 105, 110, 101]⟩⟩,
  ⟨5, 1, 2, 1638, 22, ⟨#[115, 105, 122, 101]⟩⟩,
  ⟨6, 1, 0, 16777215, 0, ⟨#[99, 111, 108, 111, 114]⟩⟩,
  ⟨7, 1, 0, 63, 0, ⟨#[102, 111, 110, 116]⟩⟩,
  ⟨8, 1, 0, 255, 0, ⟨#[108, 97, 110, 103, 117, 97, 103, 101]⟩⟩,
  ⟨9, 1, (-400), 400, 0, ⟨#[114, 97, 105, 115, 101]⟩⟩,
  ⟨10, 1, 0, 1, 0, ⟨#[104, 105, 100, 100, 101, 110]⟩⟩,
  ⟨20, 2, 0, 1073741824, 0, ⟨#[112, 97, 114, 97, 103, 114, 97, 112, 104, 45, 115, 116, 121, 108, 101]⟩⟩,
  ⟨21, 2, 0, 3, 0, ⟨#[97, 108, 105, 103, 110]⟩⟩,
  ⟨22, 2, (-31680), 31680, 0, ⟨#[108, 101, 102, 116]⟩⟩,
  ⟨23, 2, (-31680), 31680, 0, ⟨#[114, 105, 103, 104, 116]⟩⟩,
  ⟨24, 2, (-31680), 31680, 0, ⟨#[102, 105, 114, 115, 116]⟩⟩,
  ⟨25, 2, 0, 31680, 0, ⟨#[98, 101, 102, 111, 114, 101]⟩⟩,
  ⟨26, 2, 0, 31680, 0, ⟨#[97, 102, 116, 101, 114]⟩⟩,
  ⟨27, 2, 0, 31680, 0, ⟨#[108, 101, 97, 100, 105, 110, 103]⟩⟩,
  ⟨28, 2, 0, 1, 0, ⟨#[107, 101, 101, 112, 45, 110, 101, 120, 116]⟩⟩,
  ⟨29, 2, 0, 1, 0, ⟨#[107, 101, 101, 112, 45, 108, 105, 110, 101, 115]⟩⟩,
  ⟨30, 2, 0, 1, 1, ⟨#[119, 105, 100, 111, 119]⟩⟩,
  ⟨31, 2, 0, 1, 0, ⟨#[112, 97, 103, 101, 45, 98, 101, 102, 111, 114, 101]⟩⟩,
  ⟨32, 2, 0, 9, 0, ⟨#[111, 117, 116, 108, 105, 110, 101]⟩⟩,
  ⟨33, 2, 0, 1073741824, 0, ⟨#[108, 105, 115, 116]⟩⟩,
  ⟨34, 2, 1, 9, 1, ⟨#[108, 101, 118, 101, 108]⟩⟩,
  ⟨35, 2, 0, 32767, 0, ⟨#[114, 101, 115, 116, 97, 114, 116]⟩⟩,
  ⟨36, 2, 1, 31680, 720, ⟨#[116, 97, 98, 45, 115, 116, 111, 112]⟩⟩,
  ⟨37, 2, 0, 1, 0, ⟨#[104, 121, 112, 104, 101, 110, 97, 116, 101]⟩⟩,
  ⟨40, 3, 720, 31680, 12240, ⟨#[112, 97, 103, 101, 45, 119, 105, 100, 116, 104]⟩⟩,
  ⟨41, 3, 720, 31680, 15840, ⟨#[112, 97, 103, 101, 45, 104, 101, 105, 103, 104, 116]⟩⟩,
  ⟨42, 3, 0, 31680, 1440, ⟨#[116, 111, 112]⟩⟩,
  ⟨43, 3, 0, 31680, 1440, ⟨#[98, 111, 116, 116, 111, 109]⟩⟩,
  ⟨44, 3, 0, 31680, 1440, ⟨#[105, 110, 110, 101, 114]⟩⟩,
  ⟨45, 3, 0, 31680, 1440, ⟨#[111, 117, 116, 101, 114]⟩⟩,
  ⟨46, 3, 0, 32767, 0, ⟨#[102, 105, 114, 115, 116, 45, 112, 97, 103, 101]⟩⟩,
  ⟨47, 3, 1, 6, 1, ⟨#[112, 97, 103, 101, 45, 102, 111, 114, 109, 97, 116]⟩⟩,
  ⟨50, 4, 0, 1, 0, ⟨#[104, 101, 97, 100, 101, 114]⟩⟩,
  ⟨51, 4, 0, 1, 0, ⟨#[99, 97, 110, 116, 45, 115, 112, 108, 105, 116]⟩⟩,
  ⟨52, 4, 0, 31680, 0, ⟨#[114, 111, 119, 45, 104, 101, 105, 103, 104, 116]⟩⟩,
  ⟨60, 5, 1, 32, 1, ⟨#[99, 111, 108, 117, 109, 110, 45, 115, 112, 97, 110]⟩⟩,
  ⟨61, 5, 0, 2, 0, ⟨#[118, 101, 114, 116, 105, 99, 97, 108, 45, 109, 101, 114, 103, 101]⟩⟩,
  ⟨62, 5, 0, 31680, 0, ⟨#[99, 101, 108, 108, 45, 119, 105, 100, 116, 104]⟩⟩,
  ⟨63, 5, 0, 16777215, 16777215, ⟨#[115, 104, 97, 100, 101]⟩⟩,
  ⟨70, 6, 0, 31680, 0, ⟨#[116, 97, 98, 108, 101, 45, 119, 105, 100, 116, 104]⟩⟩,
  ⟨71, 6, 0, 2, 0, ⟨#[116, 97, 98, 108, 101, 45, 97, 108, 105, 103, 110]⟩⟩]
theorem tableK_len : tableK.length = 45 := rfl
theorem tableK_inc : Inc (keysK tableK) := by unfold Inc keysK tableK; simp only [List.map_cons, List.map_nil]; decide
set_option maxRecDepth 100000 in
theorem table_spec  : Fun Try.prog 95 [] (.sl 6 (encK tableK)) := by
  refine Fun.enter (n := 47) (rs := [.tmp 0]) Try.func95 rfl Try.ntmps95 Try.results95 rfl (fun w F => ?_)
  refine TC.seq ?_; refine TC.region ?_; refine TL.run1 (pure_assign rfl) rfl ?_; refine TL.nil' ?_; refine TC.seq ?_; refine TC.region ?_; refine TL.run1 (pure_build Ty.pl103 Ty.zero103 (.cons rfl rfl (.one rfl) rfl (.here (.nil _)) (.cons rfl rfl (.one rfl) rfl (.skip (.here (.nil _))) (.cons rfl rfl (.one rfl) rfl (.skip (.skip (.here (.nil _)))) (.cons rfl rfl (.one rfl) rfl (.skip (.skip (.skip (.here (.nil _))))) (.cons rfl rfl (.one rfl) rfl (.skip (.skip (.skip (.skip (.here (.nil _)))))) (.cons rfl rfl (.one rfl) rfl (.skip (.skip (.skip (.skip (.skip (.here (.nil _))))))) (.nil _)))))))) rfl ?_; refine TL.run1 (pure_build Ty.pl103 Ty.zero103 (.cons rfl rfl (.one rfl) rfl (.here (.nil _)) (.cons rfl rfl (.one rfl) rfl (.skip (.here (.nil _))) (.cons rfl rfl (.one rfl) rfl (.skip (.skip (.here (.nil _)))) (.cons rfl rfl (.one rfl) rfl (.skip (.skip (.skip (.here (.nil _))))) (.cons rfl rfl (.one rfl) rfl (.skip (.skip (.skip (.skip (.here (.nil _)))))) (.cons rfl rfl (.one rfl) rfl (.skip (.skip (.skip (.skip (.skip (.here (.nil _))))))) (.nil _)))))))) rfl ?_; refine TL.run1 (pure_build Ty.pl103 Ty.zero103 (.cons rfl rfl (.one rfl) rfl (.here (.nil _)) (.cons rfl rfl (.one rfl) rfl (.skip (.here (.nil _))) (.cons rfl rfl (.one rfl) rfl (.skip (.skip (.here (.nil _)))) (.cons rfl rfl (.one rfl) rfl (.skip (.skip (.skip (.here (.nil _))))) (.cons rfl rfl (.one rfl) rfl (.skip (.skip (.skip (.skip (.here (.nil _)))))) (.cons rfl rfl (.one rfl) rfl (.skip (.skip (.skip (.skip (.skip (.here (.nil _))))))) (.nil _)))))))) rfl ?_; refine TL.run1 (pure_build Ty.pl103 Ty.zero103 (.cons rfl rfl (.one rfl) rfl (.here (.nil _)) (.cons rfl rfl (.one rfl) rfl (.skip (.here (.nil _))) (.cons rfl rfl (.one rfl) rfl (.skip (.skip (.here (.nil _)))) (.cons rfl rfl (.one rfl) rfl (.skip (.skip (.skip (.here (.nil _))))) (.cons rfl rfl (.one rfl) rfl (.skip (.skip (.skip (.skip (.here (.nil _)))))) (.cons rfl rfl (.one rfl) rfl (.skip (.skip (.skip (.skip (.skip (.here (.nil _))))))) (.nil _)))))))) rfl ?_; refine TL.run1 (pure_build Ty.pl103 Ty.zero103 (.cons rfl rfl (.one rfl) rfl (.here (.nil _)) (.cons rfl rfl (.one rfl) rfl (.skip (.here (.nil _))) (.cons rfl rfl (.one rfl) rfl (.skip (.skip (.here (.nil _)))) (.cons rfl rfl (.one rfl) rfl (.skip (.skip (.skip (.here (.nil _))))) (.cons rfl rfl (.one rfl) rfl (.skip (.skip (.skip (.skip (.here (.nil _)))))) (.cons rfl rfl (.one rfl) rfl (.skip (.skip (.skip (.skip (.skip (.here (.nil _))))))) (.nil _)))))))) rfl ?_; refine TL.run1 (pure_build Ty.pl103 Ty.zero103 (.cons rfl rfl (.one rfl) rfl (.here (.nil _)) (.cons rfl rfl (.one rfl) rfl (.skip (.here (.nil _))) (.cons rfl rfl (.one rfl) rfl (.skip (.skip (.here (.nil _)))) (.cons rfl rfl (.one rfl) rfl (.skip (.skip (.skip (.here (.nil _))))) (.cons rfl rfl (.one rfl) rfl (.skip (.skip (.skip (.skip (.here (.nil _)))))) (.cons rfl rfl (.one rfl) rfl (.skip (.skip (.skip (.skip (.skip (.here (.nil _))))))) (.nil _)))))))) rfl ?_; refine TL.run1 (pure_build Ty.pl103 Ty.zero103 (.cons rfl rfl (.one rfl) rfl (.here (.nil _)) (.cons rfl rfl (.one rfl) rfl (.skip (.here (.nil _))) (.cons rfl rfl (.one rfl) rfl (.skip (.skip (.here (.nil _)))) (.cons rfl rfl (.one rfl) rfl (.skip (.skip (.skip (.here (.nil _))))) (.cons rfl rfl (.one rfl) rfl (.skip (.skip (.skip (.skip (.here (.nil _)))))) (.cons rfl rfl (.one rfl) rfl (.skip (.skip (.skip (.skip (.skip (.here (.nil _))))))) (.nil _)))))))) rfl ?_; refine TL.run1 (pure_build Ty.pl103 Ty.zero103 (.cons rfl rfl (.one rfl) rfl (.here (.nil _)) (.cons rfl rfl (.one rfl) rfl (.skip (.here (.nil _))) (.cons rfl rfl (.one rfl) rfl (.skip (.skip (.here (.nil _)))) (.cons rfl rfl (.one rfl) rfl (.skip (.skip (.skip (.here (.nil _))))) (.cons rfl rfl (.one rfl) rfl (.skip (.skip (.skip (.skip (.here (.nil _)))))) (.cons rfl rfl (.one rfl) rfl (.skip (.skip (.skip (.skip (.skip (.here (.nil _))))))) (.nil _)))))))) rfl ?_; refine TL.run1 (pure_build Ty.pl103 Ty.zero103 (.cons rfl rfl (.one rfl) rfl (.here (.nil _)) (.cons rfl rfl (.one rfl) rfl (.skip (.here (.nil _))) (.cons rfl rfl (.one rfl) rfl (.skip (.skip (.here (.nil _)))) (.cons rfl rfl (.one rfl) rfl (.skip (.skip (.skip (.here (.nil _))))) (.cons rfl rfl (.one rfl) rfl (.skip (.skip (.skip (.skip (.here (.nil _)))))) (.cons rfl rfl (.one rfl) rfl (.skip (.skip (.skip (.skip (.skip (.here (.nil _))))))) (.nil _)))))))) rfl ?_
  refine TL.run1 (pure_build Ty.pl103 Ty.zero103 (.cons rfl rfl (.one rfl) rfl (.here (.nil _)) (.cons rfl rfl (.one rfl) rfl (.skip (.here (.nil _))) (.cons rfl rfl (.one rfl) rfl (.skip (.skip (.here (.nil _)))) (.cons rfl rfl (.one rfl) rfl (.skip (.skip (.skip (.here (.nil _))))) (.cons rfl rfl (.one rfl) rfl (.skip (.skip (.skip (.skip (.here (.nil _)))))) (.cons rfl rfl (.one rfl) rfl (.skip (.skip (.skip (.skip (.skip (.here (.nil _))))))) (.nil _)))))))) rfl ?_; refine TL.run1 (pure_build Ty.pl103 Ty.zero103 (.cons rfl rfl (.one rfl) rfl (.here (.nil _)) (.cons rfl rfl (.one rfl) rfl (.skip (.here (.nil _))) (.cons rfl rfl (.one rfl) rfl (.skip (.skip (.here (.nil _)))) (.cons rfl rfl (.one rfl) rfl (.skip (.skip (.skip (.here (.nil _))))) (.cons rfl rfl (.one rfl) rfl (.skip (.skip (.skip (.skip (.here (.nil _)))))) (.cons rfl rfl (.one rfl) rfl (.skip (.skip (.skip (.skip (.skip (.here (.nil _))))))) (.nil _)))))))) rfl ?_; refine TL.run1 (pure_build Ty.pl103 Ty.zero103 (.cons rfl rfl (.one rfl) rfl (.here (.nil _)) (.cons rfl rfl (.one rfl) rfl (.skip (.here (.nil _))) (.cons rfl rfl (.one rfl) rfl (.skip (.skip (.here (.nil _)))) (.cons rfl rfl (.one rfl) rfl (.skip (.skip (.skip (.here (.nil _))))) (.cons rfl rfl (.one rfl) rfl (.skip (.skip (.skip (.skip (.here (.nil _)))))) (.cons rfl rfl (.one rfl) rfl (.skip (.skip (.skip (.skip (.skip (.here (.nil _))))))) (.nil _)))))))) rfl ?_; refine TL.run1 (pure_build Ty.pl103 Ty.zero103 (.cons rfl rfl (.one rfl) rfl (.here (.nil _)) (.cons rfl rfl (.one rfl) rfl (.skip (.here (.nil _))) (.cons rfl rfl (.one rfl) rfl (.skip (.skip (.here (.nil _)))) (.cons rfl rfl (.one rfl) rfl (.skip (.skip (.skip (.here (.nil _))))) (.cons rfl rfl (.one rfl) rfl (.skip (.skip (.skip (.skip (.here (.nil _)))))) (.cons rfl rfl (.one rfl) rfl (.skip (.skip (.skip (.skip (.skip (.here (.nil _))))))) (.nil _)))))))) rfl ?_; refine TL.run1 (pure_build Ty.pl103 Ty.zero103 (.cons rfl rfl (.one rfl) rfl (.here (.nil _)) (.cons rfl rfl (.one rfl) rfl (.skip (.here (.nil _))) (.cons rfl rfl (.one rfl) rfl (.skip (.skip (.here (.nil _)))) (.cons rfl rfl (.one rfl) rfl (.skip (.skip (.skip (.here (.nil _))))) (.cons rfl rfl (.one rfl) rfl (.skip (.skip (.skip (.skip (.here (.nil _)))))) (.cons rfl rfl (.one rfl) rfl (.skip (.skip (.skip (.skip (.skip (.here (.nil _))))))) (.nil _)))))))) rfl ?_; refine TL.run1 (pure_build Ty.pl103 Ty.zero103 (.cons rfl rfl (.one rfl) rfl (.here (.nil _)) (.cons rfl rfl (.one rfl) rfl (.skip (.here (.nil _))) (.cons rfl rfl (.one rfl) rfl (.skip (.skip (.here (.nil _)))) (.cons rfl rfl (.one rfl) rfl (.skip (.skip (.skip (.here (.nil _))))) (.cons rfl rfl (.one rfl) rfl (.skip (.skip (.skip (.skip (.here (.nil _)))))) (.cons rfl rfl (.one rfl) rfl (.skip (.skip (.skip (.skip (.skip (.here (.nil _))))))) (.nil _)))))))) rfl ?_; refine TL.run1 (pure_build Ty.pl103 Ty.zero103 (.cons rfl rfl (.one rfl) rfl (.here (.nil _)) (.cons rfl rfl (.one rfl) rfl (.skip (.here (.nil _))) (.cons rfl rfl (.one rfl) rfl (.skip (.skip (.here (.nil _)))) (.cons rfl rfl (.one rfl) rfl (.skip (.skip (.skip (.here (.nil _))))) (.cons rfl rfl (.one rfl) rfl (.skip (.skip (.skip (.skip (.here (.nil _)))))) (.cons rfl rfl (.one rfl) rfl (.skip (.skip (.skip (.skip (.skip (.here (.nil _))))))) (.nil _)))))))) rfl ?_; refine TL.run1 (pure_build Ty.pl103 Ty.zero103 (.cons rfl rfl (.one rfl) rfl (.here (.nil _)) (.cons rfl rfl (.one rfl) rfl (.skip (.here (.nil _))) (.cons rfl rfl (.one rfl) rfl (.skip (.skip (.here (.nil _)))) (.cons rfl rfl (.one rfl) rfl (.skip (.skip (.skip (.here (.nil _))))) (.cons rfl rfl (.one rfl) rfl (.skip (.skip (.skip (.skip (.here (.nil _)))))) (.cons rfl rfl (.one rfl) rfl (.skip (.skip (.skip (.skip (.skip (.here (.nil _))))))) (.nil _)))))))) rfl ?_; refine TL.run1 (pure_build Ty.pl103 Ty.zero103 (.cons rfl rfl (.one rfl) rfl (.here (.nil _)) (.cons rfl rfl (.one rfl) rfl (.skip (.here (.nil _))) (.cons rfl rfl (.one rfl) rfl (.skip (.skip (.here (.nil _)))) (.cons rfl rfl (.one rfl) rfl (.skip (.skip (.skip (.here (.nil _))))) (.cons rfl rfl (.one rfl) rfl (.skip (.skip (.skip (.skip (.here (.nil _)))))) (.cons rfl rfl (.one rfl) rfl (.skip (.skip (.skip (.skip (.skip (.here (.nil _))))))) (.nil _)))))))) rfl ?_
  refine TL.run1 (pure_build Ty.pl103 Ty.zero103 (.cons rfl rfl (.one rfl) rfl (.here (.nil _)) (.cons rfl rfl (.one rfl) rfl (.skip (.here (.nil _))) (.cons rfl rfl (.one rfl) rfl (.skip (.skip (.here (.nil _)))) (.cons rfl rfl (.one rfl) rfl (.skip (.skip (.skip (.here (.nil _))))) (.cons rfl rfl (.one rfl) rfl (.skip (.skip (.skip (.skip (.here (.nil _)))))) (.cons rfl rfl (.one rfl) rfl (.skip (.skip (.skip (.skip (.skip (.here (.nil _))))))) (.nil _)))))))) rfl ?_; refine TL.run1 (pure_build Ty.pl103 Ty.zero103 (.cons rfl rfl (.one rfl) rfl (.here (.nil _)) (.cons rfl rfl (.one rfl) rfl (.skip (.here (.nil _))) (.cons rfl rfl (.one rfl) rfl (.skip (.skip (.here (.nil _)))) (.cons rfl rfl (.one rfl) rfl (.skip (.skip (.skip (.here (.nil _))))) (.cons rfl rfl (.one rfl) rfl (.skip (.skip (.skip (.skip (.here (.nil _)))))) (.cons rfl rfl (.one rfl) rfl (.skip (.skip (.skip (.skip (.skip (.here (.nil _))))))) (.nil _)))))))) rfl ?_; refine TL.run1 (pure_build Ty.pl103 Ty.zero103 (.cons rfl rfl (.one rfl) rfl (.here (.nil _)) (.cons rfl rfl (.one rfl) rfl (.skip (.here (.nil _))) (.cons rfl rfl (.one rfl) rfl (.skip (.skip (.here (.nil _)))) (.cons rfl rfl (.one rfl) rfl (.skip (.skip (.skip (.here (.nil _))))) (.cons rfl rfl (.one rfl) rfl (.skip (.skip (.skip (.skip (.here (.nil _)))))) (.cons rfl rfl (.one rfl) rfl (.skip (.skip (.skip (.skip (.skip (.here (.nil _))))))) (.nil _)))))))) rfl ?_; refine TL.run1 (pure_build Ty.pl103 Ty.zero103 (.cons rfl rfl (.one rfl) rfl (.here (.nil _)) (.cons rfl rfl (.one rfl) rfl (.skip (.here (.nil _))) (.cons rfl rfl (.one rfl) rfl (.skip (.skip (.here (.nil _)))) (.cons rfl rfl (.one rfl) rfl (.skip (.skip (.skip (.here (.nil _))))) (.cons rfl rfl (.one rfl) rfl (.skip (.skip (.skip (.skip (.here (.nil _)))))) (.cons rfl rfl (.one rfl) rfl (.skip (.skip (.skip (.skip (.skip (.here (.nil _))))))) (.nil _)))))))) rfl ?_; refine TL.run1 (pure_build Ty.pl103 Ty.zero103 (.cons rfl rfl (.one rfl) rfl (.here (.nil _)) (.cons rfl rfl (.one rfl) rfl (.skip (.here (.nil _))) (.cons rfl rfl (.one rfl) rfl (.skip (.skip (.here (.nil _)))) (.cons rfl rfl (.one rfl) rfl (.skip (.skip (.skip (.here (.nil _))))) (.cons rfl rfl (.one rfl) rfl (.skip (.skip (.skip (.skip (.here (.nil _)))))) (.cons rfl rfl (.one rfl) rfl (.skip (.skip (.skip (.skip (.skip (.here (.nil _))))))) (.nil _)))))))) rfl ?_; refine TL.run1 (pure_build Ty.pl103 Ty.zero103 (.cons rfl rfl (.one rfl) rfl (.here (.nil _)) (.cons rfl rfl (.one rfl) rfl (.skip (.here (.nil _))) (.cons rfl rfl (.one rfl) rfl (.skip (.skip (.here (.nil _)))) (.cons rfl rfl (.one rfl) rfl (.skip (.skip (.skip (.here (.nil _))))) (.cons rfl rfl (.one rfl) rfl (.skip (.skip (.skip (.skip (.here (.nil _)))))) (.cons rfl rfl (.one rfl) rfl (.skip (.skip (.skip (.skip (.skip (.here (.nil _))))))) (.nil _)))))))) rfl ?_; refine TL.run1 (pure_build Ty.pl103 Ty.zero103 (.cons rfl rfl (.one rfl) rfl (.here (.nil _)) (.cons rfl rfl (.one rfl) rfl (.skip (.here (.nil _))) (.cons rfl rfl (.one rfl) rfl (.skip (.skip (.here (.nil _)))) (.cons rfl rfl (.one rfl) rfl (.skip (.skip (.skip (.here (.nil _))))) (.cons rfl rfl (.one rfl) rfl (.skip (.skip (.skip (.skip (.here (.nil _)))))) (.cons rfl rfl (.one rfl) rfl (.skip (.skip (.skip (.skip (.skip (.here (.nil _))))))) (.nil _)))))))) rfl ?_; refine TL.run1 (pure_build Ty.pl103 Ty.zero103 (.cons rfl rfl (.one rfl) rfl (.here (.nil _)) (.cons rfl rfl (.one rfl) rfl (.skip (.here (.nil _))) (.cons rfl rfl (.one rfl) rfl (.skip (.skip (.here (.nil _)))) (.cons rfl rfl (.one rfl) rfl (.skip (.skip (.skip (.here (.nil _))))) (.cons rfl rfl (.one rfl) rfl (.skip (.skip (.skip (.skip (.here (.nil _)))))) (.cons rfl rfl (.one rfl) rfl (.skip (.skip (.skip (.skip (.skip (.here (.nil _))))))) (.nil _)))))))) rfl ?_; refine TL.run1 (pure_build Ty.pl103 Ty.zero103 (.cons rfl rfl (.one rfl) rfl (.here (.nil _)) (.cons rfl rfl (.one rfl) rfl (.skip (.here (.nil _))) (.cons rfl rfl (.one rfl) rfl (.skip (.skip (.here (.nil _)))) (.cons rfl rfl (.one rfl) rfl (.skip (.skip (.skip (.here (.nil _))))) (.cons rfl rfl (.one rfl) rfl (.skip (.skip (.skip (.skip (.here (.nil _)))))) (.cons rfl rfl (.one rfl) rfl (.skip (.skip (.skip (.skip (.skip (.here (.nil _))))))) (.nil _)))))))) rfl ?_
  refine TL.run1 (pure_build Ty.pl103 Ty.zero103 (.cons rfl rfl (.one rfl) rfl (.here (.nil _)) (.cons rfl rfl (.one rfl) rfl (.skip (.here (.nil _))) (.cons rfl rfl (.one rfl) rfl (.skip (.skip (.here (.nil _)))) (.cons rfl rfl (.one rfl) rfl (.skip (.skip (.skip (.here (.nil _))))) (.cons rfl rfl (.one rfl) rfl (.skip (.skip (.skip (.skip (.here (.nil _)))))) (.cons rfl rfl (.one rfl) rfl (.skip (.skip (.skip (.skip (.skip (.here (.nil _))))))) (.nil _)))))))) rfl ?_; refine TL.run1 (pure_build Ty.pl103 Ty.zero103 (.cons rfl rfl (.one rfl) rfl (.here (.nil _)) (.cons rfl rfl (.one rfl) rfl (.skip (.here (.nil _))) (.cons rfl rfl (.one rfl) rfl (.skip (.skip (.here (.nil _)))) (.cons rfl rfl (.one rfl) rfl (.skip (.skip (.skip (.here (.nil _))))) (.cons rfl rfl (.one rfl) rfl (.skip (.skip (.skip (.skip (.here (.nil _)))))) (.cons rfl rfl (.one rfl) rfl (.skip (.skip (.skip (.skip (.skip (.here (.nil _))))))) (.nil _)))))))) rfl ?_; refine TL.run1 (pure_build Ty.pl103 Ty.zero103 (.cons rfl rfl (.one rfl) rfl (.here (.nil _)) (.cons rfl rfl (.one rfl) rfl (.skip (.here (.nil _))) (.cons rfl rfl (.one rfl) rfl (.skip (.skip (.here (.nil _)))) (.cons rfl rfl (.one rfl) rfl (.skip (.skip (.skip (.here (.nil _))))) (.cons rfl rfl (.one rfl) rfl (.skip (.skip (.skip (.skip (.here (.nil _)))))) (.cons rfl rfl (.one rfl) rfl (.skip (.skip (.skip (.skip (.skip (.here (.nil _))))))) (.nil _)))))))) rfl ?_; refine TL.run1 (pure_build Ty.pl103 Ty.zero103 (.cons rfl rfl (.one rfl) rfl (.here (.nil _)) (.cons rfl rfl (.one rfl) rfl (.skip (.here (.nil _))) (.cons rfl rfl (.one rfl) rfl (.skip (.skip (.here (.nil _)))) (.cons rfl rfl (.one rfl) rfl (.skip (.skip (.skip (.here (.nil _))))) (.cons rfl rfl (.one rfl) rfl (.skip (.skip (.skip (.skip (.here (.nil _)))))) (.cons rfl rfl (.one rfl) rfl (.skip (.skip (.skip (.skip (.skip (.here (.nil _))))))) (.nil _)))))))) rfl ?_; refine TL.run1 (pure_build Ty.pl103 Ty.zero103 (.cons rfl rfl (.one rfl) rfl (.here (.nil _)) (.cons rfl rfl (.one rfl) rfl (.skip (.here (.nil _))) (.cons rfl rfl (.one rfl) rfl (.skip (.skip (.here (.nil _)))) (.cons rfl rfl (.one rfl) rfl (.skip (.skip (.skip (.here (.nil _))))) (.cons rfl rfl (.one rfl) rfl (.skip (.skip (.skip (.skip (.here (.nil _)))))) (.cons rfl rfl (.one rfl) rfl (.skip (.skip (.skip (.skip (.skip (.here (.nil _))))))) (.nil _)))))))) rfl ?_; refine TL.run1 (pure_build Ty.pl103 Ty.zero103 (.cons rfl rfl (.one rfl) rfl (.here (.nil _)) (.cons rfl rfl (.one rfl) rfl (.skip (.here (.nil _))) (.cons rfl rfl (.one rfl) rfl (.skip (.skip (.here (.nil _)))) (.cons rfl rfl (.one rfl) rfl (.skip (.skip (.skip (.here (.nil _))))) (.cons rfl rfl (.one rfl) rfl (.skip (.skip (.skip (.skip (.here (.nil _)))))) (.cons rfl rfl (.one rfl) rfl (.skip (.skip (.skip (.skip (.skip (.here (.nil _))))))) (.nil _)))))))) rfl ?_; refine TL.run1 (pure_build Ty.pl103 Ty.zero103 (.cons rfl rfl (.one rfl) rfl (.here (.nil _)) (.cons rfl rfl (.one rfl) rfl (.skip (.here (.nil _))) (.cons rfl rfl (.one rfl) rfl (.skip (.skip (.here (.nil _)))) (.cons rfl rfl (.one rfl) rfl (.skip (.skip (.skip (.here (.nil _))))) (.cons rfl rfl (.one rfl) rfl (.skip (.skip (.skip (.skip (.here (.nil _)))))) (.cons rfl rfl (.one rfl) rfl (.skip (.skip (.skip (.skip (.skip (.here (.nil _))))))) (.nil _)))))))) rfl ?_; refine TL.run1 (pure_build Ty.pl103 Ty.zero103 (.cons rfl rfl (.one rfl) rfl (.here (.nil _)) (.cons rfl rfl (.one rfl) rfl (.skip (.here (.nil _))) (.cons rfl rfl (.one rfl) rfl (.skip (.skip (.here (.nil _)))) (.cons rfl rfl (.one rfl) rfl (.skip (.skip (.skip (.here (.nil _))))) (.cons rfl rfl (.one rfl) rfl (.skip (.skip (.skip (.skip (.here (.nil _)))))) (.cons rfl rfl (.one rfl) rfl (.skip (.skip (.skip (.skip (.skip (.here (.nil _))))))) (.nil _)))))))) rfl ?_; refine TL.run1 (pure_build Ty.pl103 Ty.zero103 (.cons rfl rfl (.one rfl) rfl (.here (.nil _)) (.cons rfl rfl (.one rfl) rfl (.skip (.here (.nil _))) (.cons rfl rfl (.one rfl) rfl (.skip (.skip (.here (.nil _)))) (.cons rfl rfl (.one rfl) rfl (.skip (.skip (.skip (.here (.nil _))))) (.cons rfl rfl (.one rfl) rfl (.skip (.skip (.skip (.skip (.here (.nil _)))))) (.cons rfl rfl (.one rfl) rfl (.skip (.skip (.skip (.skip (.skip (.here (.nil _))))))) (.nil _)))))))) rfl ?_
  refine TL.run1 (pure_build Ty.pl103 Ty.zero103 (.cons rfl rfl (.one rfl) rfl (.here (.nil _)) (.cons rfl rfl (.one rfl) rfl (.skip (.here (.nil _))) (.cons rfl rfl (.one rfl) rfl (.skip (.skip (.here (.nil _)))) (.cons rfl rfl (.one rfl) rfl (.skip (.skip (.skip (.here (.nil _))))) (.cons rfl rfl (.one rfl) rfl (.skip (.skip (.skip (.skip (.here (.nil _)))))) (.cons rfl rfl (.one rfl) rfl (.skip (.skip (.skip (.skip (.skip (.here (.nil _))))))) (.nil _)))))))) rfl ?_; refine TL.run1 (pure_build Ty.pl103 Ty.zero103 (.cons rfl rfl (.one rfl) rfl (.here (.nil _)) (.cons rfl rfl (.one rfl) rfl (.skip (.here (.nil _))) (.cons rfl rfl (.one rfl) rfl (.skip (.skip (.here (.nil _)))) (.cons rfl rfl (.one rfl) rfl (.skip (.skip (.skip (.here (.nil _))))) (.cons rfl rfl (.one rfl) rfl (.skip (.skip (.skip (.skip (.here (.nil _)))))) (.cons rfl rfl (.one rfl) rfl (.skip (.skip (.skip (.skip (.skip (.here (.nil _))))))) (.nil _)))))))) rfl ?_; refine TL.run1 (pure_build Ty.pl103 Ty.zero103 (.cons rfl rfl (.one rfl) rfl (.here (.nil _)) (.cons rfl rfl (.one rfl) rfl (.skip (.here (.nil _))) (.cons rfl rfl (.one rfl) rfl (.skip (.skip (.here (.nil _)))) (.cons rfl rfl (.one rfl) rfl (.skip (.skip (.skip (.here (.nil _))))) (.cons rfl rfl (.one rfl) rfl (.skip (.skip (.skip (.skip (.here (.nil _)))))) (.cons rfl rfl (.one rfl) rfl (.skip (.skip (.skip (.skip (.skip (.here (.nil _))))))) (.nil _)))))))) rfl ?_; refine TL.run1 (pure_build Ty.pl103 Ty.zero103 (.cons rfl rfl (.one rfl) rfl (.here (.nil _)) (.cons rfl rfl (.one rfl) rfl (.skip (.here (.nil _))) (.cons rfl rfl (.one rfl) rfl (.skip (.skip (.here (.nil _)))) (.cons rfl rfl (.one rfl) rfl (.skip (.skip (.skip (.here (.nil _))))) (.cons rfl rfl (.one rfl) rfl (.skip (.skip (.skip (.skip (.here (.nil _)))))) (.cons rfl rfl (.one rfl) rfl (.skip (.skip (.skip (.skip (.skip (.here (.nil _))))))) (.nil _)))))))) rfl ?_; refine TL.run1 (pure_build Ty.pl103 Ty.zero103 (.cons rfl rfl (.one rfl) rfl (.here (.nil _)) (.cons rfl rfl (.one rfl) rfl (.skip (.here (.nil _))) (.cons rfl rfl (.one rfl) rfl (.skip (.skip (.here (.nil _)))) (.cons rfl rfl (.one rfl) rfl (.skip (.skip (.skip (.here (.nil _))))) (.cons rfl rfl (.one rfl) rfl (.skip (.skip (.skip (.skip (.here (.nil _)))))) (.cons rfl rfl (.one rfl) rfl (.skip (.skip (.skip (.skip (.skip (.here (.nil _))))))) (.nil _)))))))) rfl ?_; refine TL.run1 (pure_build Ty.pl103 Ty.zero103 (.cons rfl rfl (.one rfl) rfl (.here (.nil _)) (.cons rfl rfl (.one rfl) rfl (.skip (.here (.nil _))) (.cons rfl rfl (.one rfl) rfl (.skip (.skip (.here (.nil _)))) (.cons rfl rfl (.one rfl) rfl (.skip (.skip (.skip (.here (.nil _))))) (.cons rfl rfl (.one rfl) rfl (.skip (.skip (.skip (.skip (.here (.nil _)))))) (.cons rfl rfl (.one rfl) rfl (.skip (.skip (.skip (.skip (.skip (.here (.nil _))))))) (.nil _)))))))) rfl ?_; refine TL.run1 (pure_build Ty.pl103 Ty.zero103 (.cons rfl rfl (.one rfl) rfl (.here (.nil _)) (.cons rfl rfl (.one rfl) rfl (.skip (.here (.nil _))) (.cons rfl rfl (.one rfl) rfl (.skip (.skip (.here (.nil _)))) (.cons rfl rfl (.one rfl) rfl (.skip (.skip (.skip (.here (.nil _))))) (.cons rfl rfl (.one rfl) rfl (.skip (.skip (.skip (.skip (.here (.nil _)))))) (.cons rfl rfl (.one rfl) rfl (.skip (.skip (.skip (.skip (.skip (.here (.nil _))))))) (.nil _)))))))) rfl ?_; refine TL.run1 (pure_build Ty.pl103 Ty.zero103 (.cons rfl rfl (.one rfl) rfl (.here (.nil _)) (.cons rfl rfl (.one rfl) rfl (.skip (.here (.nil _))) (.cons rfl rfl (.one rfl) rfl (.skip (.skip (.here (.nil _)))) (.cons rfl rfl (.one rfl) rfl (.skip (.skip (.skip (.here (.nil _))))) (.cons rfl rfl (.one rfl) rfl (.skip (.skip (.skip (.skip (.here (.nil _)))))) (.cons rfl rfl (.one rfl) rfl (.skip (.skip (.skip (.skip (.skip (.here (.nil _))))))) (.nil _)))))))) rfl ?_; refine TL.run1 (pure_build Ty.pl103 Ty.zero103 (.cons rfl rfl (.one rfl) rfl (.here (.nil _)) (.cons rfl rfl (.one rfl) rfl (.skip (.here (.nil _))) (.cons rfl rfl (.one rfl) rfl (.skip (.skip (.here (.nil _)))) (.cons rfl rfl (.one rfl) rfl (.skip (.skip (.skip (.here (.nil _))))) (.cons rfl rfl (.one rfl) rfl (.skip (.skip (.skip (.skip (.here (.nil _)))))) (.cons rfl rfl (.one rfl) rfl (.skip (.skip (.skip (.skip (.skip (.here (.nil _))))))) (.nil _)))))))) rfl ?_
  refine TL.run1 (pure_buildSlice (xs := [.tmp 1, .tmp 2, .tmp 3, .tmp 4, .tmp 5, .tmp 6, .tmp 7, .tmp 8, .tmp 9, .tmp 10, .tmp 11, .tmp 12, .tmp 13, .tmp 14, .tmp 15, .tmp 16, .tmp 17, .tmp 18, .tmp 19, .tmp 20, .tmp 21, .tmp 22, .tmp 23, .tmp 24, .tmp 25, .tmp 26, .tmp 27, .tmp 28, .tmp 29, .tmp 30, .tmp 31, .tmp 32, .tmp 33, .tmp 34, .tmp 35, .tmp 36, .tmp 37, .tmp 38, .tmp 39, .tmp 40, .tmp 41, .tmp 42, .tmp 43, .tmp 44, .tmp 45]) Ty.app114 (by decide) rfl rfl (.cons rfl (.agg _) rfl (.cons rfl (.agg _) rfl (.cons rfl (.agg _) rfl (.cons rfl (.agg _) rfl (.cons rfl (.agg _) rfl (.cons rfl (.agg _) rfl (.cons rfl (.agg _) rfl (.cons rfl (.agg _) rfl (.cons rfl (.agg _) rfl (.cons rfl (.agg _) rfl (.cons rfl (.agg _) rfl (.cons rfl (.agg _) rfl (.cons rfl (.agg _) rfl (.cons rfl (.agg _) rfl (.cons rfl (.agg _) rfl (.cons rfl (.agg _) rfl (.cons rfl (.agg _) rfl (.cons rfl (.agg _) rfl (.cons rfl (.agg _) rfl (.cons rfl (.agg _) rfl (.cons rfl (.agg _) rfl (.cons rfl (.agg _) rfl (.cons rfl (.agg _) rfl (.cons rfl (.agg _) rfl (.cons rfl (.agg _) rfl (.cons rfl (.agg _) rfl (.cons rfl (.agg _) rfl (.cons rfl (.agg _) rfl (.cons rfl (.agg _) rfl (.cons rfl (.agg _) rfl (.cons rfl (.agg _) rfl (.cons rfl (.agg _) rfl (.cons rfl (.agg _) rfl (.cons rfl (.agg _) rfl (.cons rfl (.agg _) rfl (.cons rfl (.agg _) rfl (.cons rfl (.agg _) rfl (.cons rfl (.agg _) rfl (.cons rfl (.agg _) rfl (.cons rfl (.agg _) rfl (.cons rfl (.agg _) rfl (.cons rfl (.agg _) rfl (.cons rfl (.agg _) rfl (.cons rfl (.agg _) rfl (.cons rfl (.agg _) rfl .nil)))))))))))))))))))))))))))))))))))))))))))))) rfl ?_; refine TL.run1 (pure_assign rfl) rfl ?_; refine TL.nil' ?_; refine TC.ret ?_
  exact ret_sl rfl rfl
set_option maxRecDepth 100000 in
theorem find1_spec (k : KeyE) (t : Int) : Fun Try.prog 97 [.agg (encK1 k), .v (.int .i64 t)] (.v (.int .i64 (cmpI k.num t))) := by
  refine Fun.enter (n := 9) (rs := [.tmp 4]) Try.func97 rfl Try.ntmps97 Try.results97 rfl (fun w F => ?_)
  refine TC.seq ?_; refine TC.region ?_
  refine TL.box rfl (.agg _) rfl (fun g2 => ?_)
  refine TL.run1 (pure_assign rfl) rfl ?_; refine TL.nil' ?_; refine TC.seq ?_; refine TC.region ?_
  first | refine TL.run1 (pure_fieldAddr Ty.f103_0 rfl (.zero _) (List.cons_ne_nil _ _)) rfl ?_ | refine TL.run1 (pure_fieldAddr_own Ty.f103_0 rfl) rfl ?_
  first | refine TL.run1 (pure_load1 Ty.one3 rfl) rfl ?_ | refine TL.run1 (pure_load1_own Ty.one3 rfl (by repeat (first | exact List.Mem.head _ | apply List.Mem.tail)) (by repeat (first | exact DropR.zero _ | apply DropR.succ))) rfl ?_
  refine TL.run1 (pure_move rfl) rfl ?_; refine TL.run1 (pure_call (compare_spec _ _) (.cons rfl (.cons rfl .nil)) Try.call92) rfl ?_; refine TL.run1 (pure_assign rfl) rfl ?_; refine TL.nil' ?_; refine TC.ret ?_
  exact ret_int rfl rfl
set_option maxRecDepth 100000 in
theorem bsK_spec (ks : List KeyE) (t : Int) (hinc : Inc (keysK ks)) (hl : ks.length ≤ 1000000) : Fun Try.prog 96 [.sl 6 (encK ks), .v (.int .i64 t), .fn 97 []] (.tup [.v (.int .i64 (lbI (keysK ks) t)), .v (.bool (inI (keysK ks) t))]) := by
  have hk1 := encK_len ks
  have hk2 := keysK_len ks
  refine Fun.enter (n := 49) (rs := [.tmp 6, .tmp 7]) Try.func96 rfl Try.ntmps96 Try.results96 rfl (fun w F => ?_)
  refine TC.seq ?_; refine TC.region ?_; refine TL.run1 (pure_assign rfl) rfl ?_; refine TL.run1 (pure_assign rfl) rfl ?_; refine TL.nil' ?_; refine TC.seq ?_; refine TC.region ?_; refine TL.run1 (pure_move rfl) rfl ?_
  first | refine TL.run1 (pure_len Ty.sl114 rfl) rfl ?_ | refine TL.run1 (pure_len_row Ty.sl114 rfl (by repeat (first | exact List.Mem.head _ | apply List.Mem.tail))) rfl ?_ | refine TL.run1 (pure_len_nil Ty.sl114 rfl) rfl ?_
  refine TL.run1 (pure_assign rfl) rfl ?_; refine TL.nil' ?_; refine TC.seq ?_; refine TC.region ?_; refine TL.run1 (pure_move rfl) rfl ?_; refine TL.run1 (pure_assign rfl) rfl ?_; refine TL.run1 (pure_assign rfl) rfl ?_; refine TL.nil' ?_; refine TC.seq ?_; refine TC.block ?_; refine TC.loopX (X := Int × Int) (fun x => [(0, .sl 6 (encK ks)), (1, .v (.int .i64 t)), (2, .fn 97 []), (8, .v (.int .i64 (encK ks).length)), (9, .v (.int .i64 x.1)), (10, .v (.int .i64 x.2))]) (fun _ => []) (fun x => 0 ≤ x.1 ∧ x.1 ≤ x.2 ∧ x.2 ≤ (keysK ks).length ∧ (∀ j : Nat, j < x.1.toNat → kAt (keysK ks) j < t) ∧ (∀ j : Nat, x.2.toNat ≤ j → j < (keysK ks).length → t ≤ kAt (keysK ks) j)) (fun x => (x.2 - x.1).toNat) (0, (encK ks).length) ⟨by skip; repeat (first | exact Agree.nil | refine Agree.cons rfl ?_), by skip; repeat (first | exact List.nil_sublist _ | exact List.Sublist.refl _ | apply List.Sublist.cons_cons | apply List.Sublist.cons)⟩ ?_ ?_
  · skip
    exact ⟨by omega, by omega, by omega, fun j hj => by simp at hj, fun j h1 h2 => by simp at h1; omega⟩
  rintro ⟨i, j⟩ ⟨h0, h1, h2, h3, h4⟩
  dsimp only at h0 h1 h2 h3 h4
  refine TC.seq ?_; refine TC.seq ?_; refine TC.region ?_; refine TL.run1 (pure_move rfl) rfl ?_; refine TL.run1 (pure_move rfl) rfl ?_; refine TL.run1 (pure_lss rfl rfl) rfl ?_; refine TL.nil' ?_
  first | refine TC.condD rfl (fun hc17 => ?_) (fun hc17 => ?_) | refine TC.condN rfl (fun hc17 => ?_) (fun hc17 => ?_) | refine TC.cond rfl (fun hc17 => ?_) (fun hc17 => ?_)
  · try dsimp only at hc17
    refine TC.skip' ?_; refine TC.block ?_; refine TC.seq ?_; refine TC.region ?_; refine TL.run1 (pure_move rfl) rfl ?_; refine TL.run1 (pure_move rfl) rfl ?_; refine TL.run1 (pure_add rfl rfl (mkI64 (by omega) (by omega))) rfl ?_; refine TL.run1 (pure_conv Try.underlying3 Try.underlying119 rfl (fit_u64 (by omega) (by omega))) rfl ?_; refine TL.run1 (pure_shrl (m := 2) (by rfl) rfl rfl (by decide) (by decide)) rfl ?_; refine TL.run1 (pure_conv Try.underlying119 Try.underlying3 rfl (fit_i64 (by omega) (by omega))) rfl ?_; refine TL.run1 (pure_assign rfl) rfl ?_; refine TL.nil' ?_; refine TC.seq ?_
    have hb : 0 ≤ (i + j) / 2 ∧ (i + j) / 2 < j ∧ i ≤ (i + j) / 2 := by omega
    have hrow := encK_get ks ((i + j) / 2) (by omega) (by omega)
    have hka := kAt_keysK ks (((i + j) / 2)).toNat (by omega)
    rw [show (((((i + j) / 2)).toNat : Nat) : Int) = ((i + j) / 2) by omega] at hka
    refine TC.region ?_; refine TL.run1 (pure_move rfl) rfl ?_; refine TL.run1 (pure_move rfl) rfl ?_; refine TL.run1 (pure_move rfl) rfl ?_; refine TL.run1 (pure_indexAddr Ty.sl114 rfl rfl (by omega) (by assumption) (List.cons_ne_nil _ _)) rfl ?_
    first | refine TL.run1 (pure_load Ty.agg103 rfl (.succ (.succ (.succ (.succ (.succ (.succ (.zero _)))))))) rfl ?_ | refine TL.run1 (pure_load_own Ty.agg103 rfl (by repeat (first | exact List.Mem.head _ | apply List.Mem.tail)) (by repeat (first | exact DropR.zero _ | apply DropR.succ)) (.succ (.succ (.succ (.succ (.succ (.succ (.zero _)))))))) rfl ?_
    refine TL.run1 (pure_move rfl) rfl ?_; refine TL.run1 (pure_callv rfl (find1_spec (eAt ks _) _) (.cons rfl (.cons rfl .nil)) Try.call97) rfl ?_; refine TL.run1 (pure_lss rfl rfl) rfl ?_; refine TL.nil' ?_
    first | refine TC.condD rfl (fun hc31 => ?_) (fun hc31 => ?_) | refine TC.condN rfl (fun hc31 => ?_) (fun hc31 => ?_) | refine TC.cond rfl (fun hc31 => ?_) (fun hc31 => ?_)
    · try dsimp only at hc31
      have hm : ((i + j) / 2).toNat < (keysK ks).length := by omega
      refine TC.region ?_; refine TL.run1 (pure_move rfl) rfl ?_; refine TL.run1 (pure_add rfl rfl (mkI64 (by omega) (by omega))) rfl ?_; refine TL.run1 (pure_assign rfl) rfl ?_; refine TL.nil ?_; refine block_normal ?_
      first
        | (refine loop_next ((i + j) / 2 + 1, j) ⟨by repeat (first | exact Agree.nil | refine Agree.cons rfl ?_), by repeat (first | exact List.nil_sublist _ | exact List.Sublist.refl _ | apply List.Sublist.cons_cons | apply List.Sublist.cons)⟩ ⟨by omega, by omega, by omega, fun m hm1 => ?_, h4⟩ (by dsimp only; omega)
           have hq := (cmpI_neg _ _).1 hc31
           try rw [← hka] at hq
           rcases Nat.lt_or_ge m ((i + j) / 2).toNat with h | h
           · exact Int.lt_trans (hinc.lt h hm) hq
           · rw [show m = ((i + j) / 2).toNat by dsimp only at hm1; omega]; exact hq)
        | (refine loop_next (i, (i + j) / 2) ⟨by repeat (first | exact Agree.nil | refine Agree.cons rfl ?_), by repeat (first | exact List.nil_sublist _ | exact List.Sublist.refl _ | apply List.Sublist.cons_cons | apply List.Sublist.cons)⟩ ⟨by omega, by omega, by omega, h3, fun m hm1 hm2 => ?_⟩ (by dsimp only; omega)
           have hq : t ≤ kAt (keysK ks) ((i + j) / 2).toNat := by (have := mt (cmpI_neg _ _).2 hc31; (try rw [← hka] at this); omega)
           rcases Nat.eq_or_lt_of_le hm1 with h | h
           · rw [← h]; exact hq
           · exact Int.le_trans hq (Int.le_of_lt (hinc.lt h hm2)))
    · try dsimp only at hc31
      have hm : ((i + j) / 2).toNat < (keysK ks).length := by omega
      refine TC.region ?_; refine TL.run1 (pure_move rfl) rfl ?_; refine TL.run1 (pure_assign rfl) rfl ?_; refine TL.nil ?_; refine block_normal ?_
      first
        | (refine loop_next ((i + j) / 2 + 1, j) ⟨by repeat (first | exact Agree.nil | refine Agree.cons rfl ?_), by repeat (first | exact List.nil_sublist _ | exact List.Sublist.refl _ | apply List.Sublist.cons_cons | apply List.Sublist.cons)⟩ ⟨by omega, by omega, by omega, fun m hm1 => ?_, h4⟩ (by dsimp only; omega)
           have hq := (cmpI_neg _ _).1 hc31
           try rw [← hka] at hq
           rcases Nat.lt_or_ge m ((i + j) / 2).toNat with h | h
           · exact Int.lt_trans (hinc.lt h hm) hq
           · rw [show m = ((i + j) / 2).toNat by dsimp only at hm1; omega]; exact hq)
        | (refine loop_next (i, (i + j) / 2) ⟨by repeat (first | exact Agree.nil | refine Agree.cons rfl ?_), by repeat (first | exact List.nil_sublist _ | exact List.Sublist.refl _ | apply List.Sublist.cons_cons | apply List.Sublist.cons)⟩ ⟨by omega, by omega, by omega, h3, fun m hm1 hm2 => ?_⟩ (by dsimp only; omega)
           have hq : t ≤ kAt (keysK ks) ((i + j) / 2).toNat := by (have := mt (cmpI_neg _ _).2 hc31; (try rw [← hka] at this); omega)
           rcases Nat.eq_or_lt_of_le hm1 with h | h
           · rw [← h]; exact hq
           · exact Int.le_trans hq (Int.le_of_lt (hinc.lt h hm2)))
  · try dsimp only at hc17
    have hij : i = j := by omega
    subst hij
    have hlb : lbI (keysK ks) t = i.toNat := lbI_eq _ _ _ (by omega) h3 (fun hl => h4 _ (by omega) hl)
    refine TC.exit ?_; refine then_exit ?_; refine loop_exit ?_; refine block_here ?_; refine then_normal ?_; refine TC.seq ?_; refine TC.region ?_; refine TL.run1 (pure_move rfl) rfl ?_; refine TL.run1 (pure_move rfl) rfl ?_; refine TL.run1 (pure_move rfl) rfl ?_; refine TL.run1 (pure_lss rfl rfl) rfl ?_; refine TL.run1 (pure_move rfl) rfl ?_
    first | refine TL.splitP 39 rfl (fun hg39 => ?_) (fun hg39 => ?_) | refine TL.split 39 rfl (fun hg39 => ?_) (fun hg39 => ?_)
    · try dsimp only at hg39
      have hrow := encK_get ks i (by omega) (by omega)
      have hka := kAt_keysK ks (i).toNat (by omega)
      rw [show (((i).toNat : Nat) : Int) = i by omega] at hka
      refine TL.runG rfl rfl (pure_move rfl) rfl ?_; refine TL.runG rfl rfl (pure_move rfl) rfl ?_; refine TL.runG rfl rfl (pure_move rfl) rfl ?_; refine TL.runG rfl rfl (pure_indexAddr Ty.sl114 rfl rfl (by omega) (by assumption) (List.cons_ne_nil _ _)) rfl ?_
      first | refine TL.runG rfl rfl (pure_load Ty.agg103 rfl (.succ (.succ (.succ (.succ (.succ (.succ (.zero _)))))))) rfl ?_ | refine TL.runG rfl rfl (pure_load_own Ty.agg103 rfl (by repeat (first | exact List.Mem.head _ | apply List.Mem.tail)) (by repeat (first | exact DropR.zero _ | apply DropR.succ)) (.succ (.succ (.succ (.succ (.succ (.succ (.zero _)))))))) rfl ?_
      refine TL.runG rfl rfl (pure_move rfl) rfl ?_; refine TL.runG rfl rfl (pure_callv rfl (find1_spec (eAt ks _) _) (.cons rfl (.cons rfl .nil)) Try.call97) rfl ?_; refine TL.runG rfl rfl (pure_eql rfl rfl) rfl ?_; refine TL.run1 (pure_pick_true rfl rfl) rfl ?_; refine TL.run1 (pure_assign rfl) rfl ?_; refine TL.run1 (pure_assign rfl) rfl ?_; refine TL.nil' ?_; refine TC.ret ?_; refine ret2 (.inl rfl) rfl rfl ?_
      rw [hlb, show ((i.toNat : Nat) : Int) = i by omega]; unfold inI; rw [hlb]
      by_cases hx : i.toNat < (keysK ks).length
      · try rw [← hka]
        simp [cmpI_zero, hx]
        try (exfalso; omega)
      · simp [hx]
        try (exfalso; omega)
    · try dsimp only at hg39
      refine TL.passG rfl rfl rfl rfl ?_; refine TL.passG rfl rfl rfl rfl ?_; refine TL.passG rfl rfl rfl rfl ?_; refine TL.passG rfl rfl rfl rfl ?_; refine TL.passG rfl rfl rfl rfl ?_; refine TL.passG rfl rfl rfl rfl ?_; refine TL.passG rfl rfl rfl rfl ?_; refine TL.passG rfl rfl rfl rfl ?_; refine TL.run1 (pure_pick_false rfl rfl) rfl ?_; refine TL.run1 (pure_assign rfl) rfl ?_; refine TL.run1 (pure_assign rfl) rfl ?_; refine TL.nil' ?_; refine TC.ret ?_; refine ret2 (.inl rfl) rfl rfl ?_
      rw [hlb, show ((i.toNat : Nat) : Int) = i by omega]; unfold inI; rw [hlb]
      by_cases hx : i.toNat < (keysK ks).length
      · try rw [← hka]
        simp [cmpI_zero, hx]
        try (exfalso; omega)
      · simp [hx]
        try (exfalso; omega)
/-- the entry of a key -/
def findK (t : Int) : KeyE := if inI (keysK tableK) t = true then eAt tableK (lbI (keysK tableK) t) else kE0
set_option maxRecDepth 100000 in
theorem findK_spec (t : Int) : Fun Try.prog 84 [.v (.int .i64 t)] (.tup [.agg (encK1 (findK t)), .v (.bool (inI (keysK tableK) t))]) := by
  refine Fun.enter (n := 21) (rs := [.cell 2 103, .tmp 3]) Try.func84 rfl Try.ntmps84 Try.results84 rfl (fun w F => ?_)
  refine TC.seq ?_; refine TC.region ?_
  refine TL.alloc Ty.zero103 rfl (fun g2 => ?_)
  refine TL.run1 (pure_assign rfl) rfl ?_; refine TL.nil' ?_; refine TC.seq ?_; refine TC.region ?_; refine TL.run1 (pure_call (table_spec) .nil Try.call95) rfl ?_; refine TL.run1 (pure_assign rfl) rfl ?_; refine TL.nil' ?_; refine TC.seq ?_; refine TC.region ?_; refine TL.run1 (pure_move rfl) rfl ?_; refine TL.run1 (pure_move rfl) rfl ?_; refine TL.run1 (pure_call (bsK_spec _ _ tableK_inc (by rw [tableK_len]; omega)) (.cons rfl (.cons rfl (.cons rfl .nil))) Try.call96) rfl ?_; refine TL.run1 (pure_move rfl) rfl ?_; refine TL.run1 (pure_extract rfl rfl) rfl ?_; refine TL.run1 (pure_extract rfl rfl) rfl ?_; refine TL.run1 (pure_assign rfl) rfl ?_; refine TL.run1 (pure_assign rfl) rfl ?_; refine TL.nil' ?_; refine TC.seq ?_; refine TC.seq ?_; refine TC.region ?_; refine TL.run1 (pure_move rfl) rfl ?_; refine TL.run1 (pure_not rfl) rfl ?_; refine TL.nil' ?_
  first | refine TC.condD rfl (fun hc15 => ?_) (fun hc15 => ?_) | refine TC.condN rfl (fun hc15 => ?_) (fun hc15 => ?_) | refine TC.cond rfl (fun hc15 => ?_) (fun hc15 => ?_)
  · try dsimp only at hc15
    have hin : inI (keysK tableK) t = false := decide_eq_false hc15
    refine TC.seq ?_; refine TC.region ?_; refine TL.run1 (pure_build Ty.pl103 Ty.zero103 (.nil _)) rfl ?_; refine TL.store rfl rfl (.agg _) Try.sizeOf103 rfl (by repeat (first | exact UpdR.here _ | apply UpdR.there)) (by repeat (first | exact PutR.nil _ | apply PutR.here | apply PutR.skip)) ?_; refine TL.run1 (pure_assign rfl) rfl ?_; refine TL.nil' ?_; refine TC.ret ?_; refine then_ret ?_
    exact ret_cell_tmp (.inl rfl) Ty.agg103 rfl (.head _) rfl rfl (by rw [findK, hin]; rfl)
  · try dsimp only at hc15
    have hin : inI (keysK tableK) t = true := decide_eq_true hc15
    have hlt : lbI (keysK tableK) t < tableK.length := by have := hc15; rw [keysK_len] at this; exact this.1
    have hrow := encK_get tableK (lbI (keysK tableK) t) (by omega) (by omega)
    refine TC.skip' ?_; refine TC.seq ?_; refine TC.region ?_; refine TL.run1 (pure_move rfl) rfl ?_; refine TL.run1 (pure_move rfl) rfl ?_; refine TL.run1 (pure_indexAddr Ty.sl114 rfl rfl (by omega) (by assumption) (List.cons_ne_nil _ _)) rfl ?_
    first | refine TL.run1 (pure_load Ty.agg103 rfl (.succ (.succ (.succ (.succ (.succ (.succ (.zero _)))))))) rfl ?_ | refine TL.run1 (pure_load_own Ty.agg103 rfl (by repeat (first | exact List.Mem.head _ | apply List.Mem.tail)) (by repeat (first | exact DropR.zero _ | apply DropR.succ)) (.succ (.succ (.succ (.succ (.succ (.succ (.zero _)))))))) rfl ?_
    refine TL.store rfl rfl (.agg _) Try.sizeOf103 rfl (by repeat (first | exact UpdR.here _ | apply UpdR.there)) (by repeat (first | exact PutR.nil _ | apply PutR.here | apply PutR.skip)) ?_; refine TL.run1 (pure_assign rfl) rfl ?_; refine TL.nil' ?_; refine TC.ret ?_
    exact ret_cell_tmp (.inl rfl) Ty.agg103 rfl (.head _) rfl rfl (by rw [findK, hin]; rfl)
set_option maxRecDepth 100000 in
theorem default_spec (t : Int) : Fun Try.prog 68 [.v (.int .i64 t)] (.tup [.v (.int .i64 (findK t).std), .v (.int .i64 (if inI (keysK tableK) t = true then 0 else 4))]) := by
  refine Fun.enter (n := 15) (rs := [.tmp 2, .tmp 3]) Try.func68 rfl Try.ntmps68 Try.results68 rfl (fun w F => ?_)
  refine TC.seq ?_; refine TC.region ?_; refine TL.run1 (pure_assign rfl) rfl ?_; refine TL.run1 (pure_assign rfl) rfl ?_; refine TL.nil' ?_; refine TC.seq ?_; refine TC.region ?_; refine TL.run1 (pure_move rfl) rfl ?_; refine TL.run1 (pure_call (findK_spec _) (.cons rfl .nil) Try.call84) rfl ?_; refine TL.run1 (pure_move rfl) rfl ?_; refine TL.run1 (pure_extract rfl rfl) rfl ?_; refine TL.run1 (pure_extract rfl rfl) rfl ?_
  refine TL.alloc Ty.zero103 rfl (fun g4 => ?_)
  refine TL.store rfl rfl (.agg _) Try.sizeOf103 rfl (by repeat (first | exact UpdR.here _ | apply UpdR.there)) (by repeat (first | exact PutR.nil _ | apply PutR.here | apply PutR.skip)) ?_; refine TL.run1 (pure_assign rfl) rfl ?_; refine TL.nil' ?_; refine TC.seq ?_; refine TC.seq ?_; refine TC.region ?_; refine TL.run1 (pure_move rfl) rfl ?_; refine TL.run1 (pure_not rfl) rfl ?_; refine TL.nil' ?_
  first | refine TC.condD rfl (fun hc12 => ?_) (fun hc12 => ?_) | refine TC.condN rfl (fun hc12 => ?_) (fun hc12 => ?_) | refine TC.cond rfl (fun hc12 => ?_) (fun hc12 => ?_)
  · try dsimp only at hc12
    have hin : inI (keysK tableK) t = false := decide_eq_false hc12
    refine TC.seq ?_; refine TC.region ?_; refine TL.run1 (pure_assign rfl) rfl ?_; refine TL.run1 (pure_assign rfl) rfl ?_; refine TL.nil' ?_; refine TC.ret ?_; refine then_ret ?_
    exact ret2 (.inl rfl) rfl rfl (by first | (rw [hin]; rfl) | (rw [findK, hin]; rfl))
  · try dsimp only at hc12
    have hin : inI (keysK tableK) t = true := decide_eq_true hc12
    refine TC.skip' ?_; refine TC.seq ?_; refine TC.region ?_
    first | refine TL.run1 (pure_fieldAddr Ty.f103_4 rfl (.succ (.succ (.succ (.succ (.zero _))))) (List.cons_ne_nil _ _)) rfl ?_ | refine TL.run1 (pure_fieldAddr_own Ty.f103_4 rfl) rfl ?_
    first | refine TL.run1 (pure_load1 Ty.one3 rfl) rfl ?_ | refine TL.run1 (pure_load1_own Ty.one3 rfl (by repeat (first | exact List.Mem.head _ | apply List.Mem.tail)) (by repeat (first | exact DropR.zero _ | apply DropR.succ))) rfl ?_
    refine TL.run1 (pure_assign rfl) rfl ?_; refine TL.run1 (pure_assign rfl) rfl ?_; refine TL.nil' ?_; refine TC.ret ?_
    exact ret2 (.inl rfl) rfl rfl (by first | (rw [hin]; rfl) | (rw [findK, hin]; rfl))
-- value_spec: not in this seat
end Go.Ob
set_option linter.unusedVariables false
set_option linter.unusedSimpArgs false
namespace Go.Ob
open Go.Proofs
/-! ### lists of properties: what a key has -/
def lookP : List (Int × Int) → Int → Option Int
  | [], _ => none
  | p :: l, k => if p.1 = k then some p.2 else lookP l k
theorem lookP_cons (p : Int × Int) (l : List (Int × Int)) (k : Int) : lookP (p :: l) k = if p.1 = k then some p.2 else lookP l k := rfl
theorem lookP_none : ∀ (l : List (Int × Int)) (k : Int), (∀ p ∈ l, p.1 ≠ k) → lookP l k = none
  | [], _, _ => rfl
  | p :: l, k, h => by rw [lookP, if_neg (h p (by simp)), lookP_none l k fun q hq => h q (by simp [hq])]
theorem lookP_append : ∀ (a b : List (Int × Int)) (k : Int), lookP (a ++ b) k = (lookP a k).or (lookP b k)
  | [], _, _ => by simp [lookP]
  | p :: a, b, k => by
    rw [List.cons_append, lookP, lookP]
    split
    · simp
    · exact lookP_append a b k
theorem Inc.cons {k : Int} {l : List (Int × Int)} {v : Int} : Inc (keysP ((k, v) :: l)) ↔ (∀ p ∈ l, k < p.1) ∧ Inc (keysP l) := by
  unfold Inc keysP
  rw [List.map_cons, List.pairwise_cons]
  simp
theorem Inc.cons' {p : Int × Int} {l : List (Int × Int)} : Inc (keysP (p :: l)) ↔ (∀ q ∈ l, p.1 < q.1) ∧ Inc (keysP l) := Inc.cons
theorem Inc.append {a b : List (Int × Int)} : Inc (keysP (a ++ b)) ↔ Inc (keysP a) ∧ Inc (keysP b) ∧ ∀ p ∈ a, ∀ q ∈ b, p.1 < q.1 := by
  unfold Inc keysP
  rw [List.map_append, List.pairwise_append]
  simp
theorem lookP_gt {l : List (Int × Int)} {k : Int} (h : ∀ p ∈ l, k < p.1) : lookP l k = none := lookP_none l k fun p hp => by have := h p hp; omega
theorem lookP_ext : ∀ (a b : List (Int × Int)), Inc (keysP a) → Inc (keysP b) → (∀ k, lookP a k = lookP b k) → a = b
  | [], [], _, _, _ => rfl
  | [], y :: b, _, _, h => by have := h y.1; simp [lookP] at this
  | x :: a, [], _, _, h => by have := h x.1; simp [lookP] at this
  | x :: a, y :: b, ha, hb, h => by
    obtain ⟨ha1, ha2⟩ := Inc.cons'.1 ha
    obtain ⟨hb1, hb2⟩ := Inc.cons'.1 hb
    rcases Int.lt_trichotomy x.1 y.1 with hlt | heq | hgt
    · have := h x.1
      rw [lookP, if_pos rfl, lookP, if_neg (by omega), lookP_gt fun p hp => by have := hb1 p hp; omega] at this
      cases this
    · have h1 := h x.1
      rw [lookP, if_pos rfl, lookP, if_pos heq.symm] at h1
      have e : x = y := Prod.ext heq (Option.some.inj h1)
      subst e
      rw [lookP_ext a b ha2 hb2 fun k => by
        by_cases hk : x.1 = k
        · subst hk; rw [lookP_gt ha1, lookP_gt hb1]
        · have := h k; rwa [lookP, if_neg hk, lookP, if_neg hk] at this]
    · have := h y.1
      rw [lookP, if_neg (by omega), lookP_gt fun p hp => by have := ha1 p hp; omega] at this
      rw [lookP, if_pos rfl] at this
      cases this
/-! ### pairs of two ordered lists -/
def pairsL : List (Int × Int) → List (Int × Int) → List (Option (Int × Int) × Option (Int × Int))
  | [], [] => []
  | x :: a, [] => (some x, none) :: pairsL a []
  | [], y :: b => (none, some y) :: pairsL [] b
  | x :: a, y :: b => if x.1 < y.1 then (some x, none) :: pairsL a (y :: b) else if y.1 < x.1 then (none, some y) :: pairsL (x :: a) b else (some x, some y) :: pairsL a b
termination_by a b => a.length + b.length
theorem drop_P (l : List (Int × Int)) (i : Int) (h0 : 0 ≤ i) (h1 : i < l.length) : l.drop i.toNat = pAt l i :: l.drop (i + 1).toNat := by
  have hl : i.toNat < l.length := by omega
  rw [List.drop_eq_getElem_cons hl, show (i + 1).toNat = i.toNat + 1 by omega]
  simp [pAt, hl]
theorem drop_P_end (l : List (Int × Int)) (i : Int) (h1 : l.length ≤ i) : l.drop i.toNat = [] := List.drop_eq_nil_of_le (by omega)
theorem pairs_xy {a b : List (Int × Int)} {i k : Int} (h0 : 0 ≤ i) (h1 : i ≤ a.length) (h2 : 0 ≤ k) (h3 : k ≤ b.length) (hx : k = b.length ∨ i < a.length ∧ (pAt a i).1 ≤ (pAt b k).1) (hy : i = a.length ∨ k < b.length ∧ (pAt b k).1 ≤ (pAt a i).1) (hne : i < a.length ∨ k < b.length) :
    pairsL (a.drop i.toNat) (b.drop k.toNat) = (some (pAt a i), some (pAt b k)) :: pairsL (a.drop (i + 1).toNat) (b.drop (k + 1).toNat) := by
  have hi : i < a.length := by omega
  have hk : k < b.length := by omega
  rw [drop_P a i h0 hi, drop_P b k h2 hk, pairsL, if_neg (by omega), if_neg (by omega)]
theorem pairs_x {a b : List (Int × Int)} {i k : Int} (h0 : 0 ≤ i) (h1 : i ≤ a.length) (h2 : 0 ≤ k) (h3 : k ≤ b.length) (hx : k = b.length ∨ i < a.length ∧ (pAt a i).1 ≤ (pAt b k).1) (hy : ¬ (i = a.length ∨ k < b.length ∧ (pAt b k).1 ≤ (pAt a i).1)) (hne : i < a.length ∨ k < b.length) :
    pairsL (a.drop i.toNat) (b.drop k.toNat) = (some (pAt a i), none) :: pairsL (a.drop (i + 1).toNat) (b.drop k.toNat) := by
  have hi : i < a.length := by omega
  rw [drop_P a i h0 hi]
  by_cases hk : k < b.length
  · rw [drop_P b k h2 hk, pairsL, if_pos (by omega)]
  · rw [drop_P_end b k (by omega), pairsL]
theorem pairs_y {a b : List (Int × Int)} {i k : Int} (h0 : 0 ≤ i) (h1 : i ≤ a.length) (h2 : 0 ≤ k) (h3 : k ≤ b.length) (hx : ¬ (k = b.length ∨ i < a.length ∧ (pAt a i).1 ≤ (pAt b k).1)) (hy : i = a.length ∨ k < b.length ∧ (pAt b k).1 ≤ (pAt a i).1) (hne : i < a.length ∨ k < b.length) :
    pairsL (a.drop i.toNat) (b.drop k.toNat) = (none, some (pAt b k)) :: pairsL (a.drop i.toNat) (b.drop (k + 1).toNat) := by
  have hk : k < b.length := by omega
  rw [drop_P b k h2 hk]
  by_cases hi : i < a.length
  · rw [drop_P a i h0 hi, pairsL, if_neg (by omega), if_pos (by omega)]
  · rw [drop_P_end a i (by omega), pairsL]
def pickP (p : Option (Int × Int) × Option (Int × Int)) : Int × Int := p.2.getD (p.1.getD (0, 0))
def mergeP (a b : List (Int × Int)) : List (Int × Int) := (pairsL a b).map pickP
theorem pairsL_len (a b : List (Int × Int)) : (pairsL a b).length ≤ a.length + b.length := by
  fun_induction pairsL a b <;> simp_all <;> omega
theorem mergeP_len (a b : List (Int × Int)) : (mergeP a b).length ≤ a.length + b.length := by
  unfold mergeP; rw [List.length_map]; exact pairsL_len a b
theorem mergeP_gt (a b : List (Int × Int)) (m : Int) (ha : ∀ p ∈ a, m < p.1) (hb : ∀ p ∈ b, m < p.1) : ∀ p ∈ mergeP a b, m < p.1 := by
  unfold mergeP
  fun_induction pairsL a b with
  | case1 => simp
  | case2 x a ih => simp only [List.map_cons, List.mem_cons, forall_eq_or_imp]; exact ⟨ha x (by simp), ih (fun p hp => ha p (by simp [hp])) hb⟩
  | case3 y b ih => simp only [List.map_cons, List.mem_cons, forall_eq_or_imp]; exact ⟨hb y (by simp), ih ha (fun p hp => hb p (by simp [hp]))⟩
  | case4 x a y b h ih => simp only [List.map_cons, List.mem_cons, forall_eq_or_imp]; exact ⟨ha x (by simp), ih (fun p hp => ha p (by simp [hp])) hb⟩
  | case5 x a y b h1 h2 ih => simp only [List.map_cons, List.mem_cons, forall_eq_or_imp]; exact ⟨hb y (by simp), ih ha (fun p hp => hb p (by simp [hp]))⟩
  | case6 x a y b h1 h2 ih => simp only [List.map_cons, List.mem_cons, forall_eq_or_imp]; exact ⟨hb y (by simp), ih (fun p hp => ha p (by simp [hp])) (fun p hp => hb p (by simp [hp]))⟩
theorem mergeP_spec (a b : List (Int × Int)) (ha : Inc (keysP a)) (hb : Inc (keysP b)) : Inc (keysP (mergeP a b)) ∧ ∀ k, lookP (mergeP a b) k = (lookP b k).or (lookP a k) := by
  have key : ∀ (a b : List (Int × Int)) (z : Int × Int), (∀ p ∈ a, z.1 < p.1) → (∀ p ∈ b, z.1 < p.1) → Inc (keysP (mergeP a b)) → Inc (keysP (z :: mergeP a b)) := fun a b z h1 h2 h => Inc.cons'.2 ⟨mergeP_gt a b z.1 h1 h2, h⟩
  have hm : ∀ a b, (pairsL a b).map pickP = mergeP a b := fun _ _ => rfl
  unfold mergeP
  fun_induction pairsL a b with
  | case1 => exact ⟨by simp [Inc, keysP], fun k => rfl⟩
  | case2 x a ih =>
    obtain ⟨h1, h2⟩ := Inc.cons'.1 ha
    obtain ⟨i1, i2⟩ := ih h2 hb
    rw [List.map_cons]
    exact ⟨key a [] x h1 (by simp) i1, fun k => by
      rw [lookP_cons, show (pickP (some x, none)) = x from rfl, i2]; simp only [lookP, Option.none_or]⟩
  | case3 y b ih =>
    obtain ⟨h1, h2⟩ := Inc.cons'.1 hb
    obtain ⟨i1, i2⟩ := ih ha h2
    rw [List.map_cons]
    exact ⟨key [] b y (by simp) h1 i1, fun k => by
      rw [lookP_cons, show (pickP (none, some y)) = y from rfl, i2]; simp only [lookP, Option.or_none]⟩
  | case4 x a y b h ih =>
    obtain ⟨h1, h2⟩ := Inc.cons'.1 ha
    obtain ⟨h3, h4⟩ := Inc.cons'.1 hb
    obtain ⟨i1, i2⟩ := ih h2 hb
    rw [List.map_cons]
    refine ⟨key a (y :: b) x h1 (fun p hp => ?_) i1, fun k => ?_⟩
    · rcases List.mem_cons.1 hp with rfl | hp
      · exact h
      · exact Int.lt_trans h (h3 p hp)
    · rw [lookP_cons, show (pickP (some x, none)) = x from rfl, i2, lookP_cons y b, lookP_cons x a]
      by_cases hx : x.1 = k
      · rw [if_pos hx, if_pos hx, if_neg (by omega), lookP_gt fun p hp => by have := h3 p hp; omega]; simp
      · rw [if_neg hx, if_neg hx]
  | case5 x a y b h1 h2 ih =>
    obtain ⟨h3, h4⟩ := Inc.cons'.1 hb
    obtain ⟨h5, h6⟩ := Inc.cons'.1 ha
    obtain ⟨i1, i2⟩ := ih ha h4
    rw [List.map_cons]
    refine ⟨key (x :: a) b y (fun p hp => ?_) h3 i1, fun k => ?_⟩
    · rcases List.mem_cons.1 hp with rfl | hp
      · exact h2
      · exact Int.lt_trans h2 (h5 p hp)
    · rw [lookP_cons, show (pickP (none, some y)) = y from rfl, i2, lookP_cons y b]
      by_cases hy : y.1 = k
      · rw [if_pos hy, if_pos hy]; simp
      · rw [if_neg hy, if_neg hy]
  | case6 x a y b h1 h2 ih =>
    obtain ⟨h3, h4⟩ := Inc.cons'.1 hb
    obtain ⟨h5, h6⟩ := Inc.cons'.1 ha
    obtain ⟨i1, i2⟩ := ih h6 h4
    have he : x.1 = y.1 := by omega
    rw [List.map_cons]
    refine ⟨key a b y (fun p hp => by have := h5 p hp; omega) h3 i1, fun k => ?_⟩
    rw [lookP_cons, show (pickP (some x, some y)) = y from rfl, i2, lookP_cons y b, lookP_cons x a]
    by_cases hy : y.1 = k
    · rw [if_pos hy, if_pos hy]; simp
    · rw [if_neg hy, if_neg hy, if_neg (by omega)]
theorem mergeP_assoc {a b c : List (Int × Int)} (ha : Inc (keysP a)) (hb : Inc (keysP b)) (hc : Inc (keysP c)) : mergeP (mergeP a b) c = mergeP a (mergeP b c) := by
  obtain ⟨h1, h2⟩ := mergeP_spec a b ha hb
  obtain ⟨h3, h4⟩ := mergeP_spec b c hb hc
  obtain ⟨h5, h6⟩ := mergeP_spec _ c h1 hc
  obtain ⟨h7, h8⟩ := mergeP_spec a _ ha h3
  exact lookP_ext _ _ h5 h7 fun k => by rw [h6, h8, h2, h4, Option.or_assoc]
theorem mergeP_self {a : List (Int × Int)} (ha : Inc (keysP a)) : mergeP a a = a := by
  obtain ⟨h1, h2⟩ := mergeP_spec a a ha ha
  exact lookP_ext _ _ h1 ha fun k => by rw [h2, Option.or_self]
/-! ### the reference's Clear, Set, Merge -/
def clearP (l : List (Int × Int)) (key : Int) : List (Int × Int) := l.filter fun p => decide (p.1 ≠ key)
def setP (l : List (Int × Int)) (key value : Int) : List (Int × Int) := (clearP l key).takeWhile (fun p => decide (p.1 < key)) ++ (key, value) :: (clearP l key).dropWhile (fun p => decide (p.1 < key))
theorem clearP_len (l : List (Int × Int)) (key : Int) : (clearP l key).length ≤ l.length := List.length_filter_le _ _
theorem setP_len (l : List (Int × Int)) (key value : Int) : (setP l key value).length ≤ l.length + 1 := by
  have h := congrArg List.length (List.takeWhile_append_dropWhile (p := fun p => decide (p.1 < key)) (l := clearP l key))
  have h2 := clearP_len l key
  unfold setP
  simp only [List.length_append, List.length_cons] at h ⊢
  omega
theorem clearP_inc {l : List (Int × Int)} (h : Inc (keysP l)) (key : Int) : Inc (keysP (clearP l key)) := by
  unfold Inc keysP clearP at *
  exact List.Pairwise.sublist ((List.filter_sublist).map _) h
theorem clearP_look (l : List (Int × Int)) (key k : Int) : lookP (clearP l key) k = if k = key then none else lookP l k := by
  unfold clearP
  induction l with
  | nil => simp [lookP]
  | cons p l ih =>
    by_cases hp : p.1 = key
    · rw [List.filter_cons_of_neg (by simpa using hp), ih, lookP]
      by_cases hk : k = key
      · rw [if_pos hk, if_pos hk]
      · rw [if_neg hk, if_neg hk, if_neg (by omega)]
    · rw [List.filter_cons_of_pos (by simpa using hp), lookP, lookP, ih]
      by_cases hk : k = key
      · rw [if_neg (show ¬ p.1 = k by omega), if_pos hk, if_pos hk]
      · rw [if_neg hk, if_neg hk]
theorem drop_ge {l : List (Int × Int)} (h : Inc (keysP l)) (key : Int) : ∀ p ∈ l.dropWhile (fun p => decide (p.1 < key)), key ≤ p.1 := by
  induction l with
  | nil => simp
  | cons q l ih =>
    obtain ⟨h1, h2⟩ := Inc.cons'.1 h
    by_cases hq : q.1 < key
    · rw [List.dropWhile_cons_of_pos (by simpa using hq)]; exact ih h2
    · rw [List.dropWhile_cons_of_neg (by simpa using hq)]
      intro p hp
      rcases List.mem_cons.1 hp with rfl | hp
      · omega
      · have := h1 p hp; omega
theorem take_lt (key : Int) : ∀ (l : List (Int × Int)), ∀ p ∈ l.takeWhile (fun p => decide (p.1 < key)), p.1 < key
  | [] => by simp
  | q :: l => by
    by_cases hq : q.1 < key
    · rw [List.takeWhile_cons_of_pos (by simpa using hq)]
      intro p hp
      rcases List.mem_cons.1 hp with rfl | hp
      · exact hq
      · exact take_lt key l p hp
    · rw [List.takeWhile_cons_of_neg (by simpa using hq)]
      simp
theorem setP_inc {l : List (Int × Int)} (h : Inc (keysP l)) (key value : Int) : Inc (keysP (setP l key value)) := by
  have hc := clearP_inc h key
  have h1 := hc
  rw [← List.takeWhile_append_dropWhile (p := fun p => decide (p.1 < key)) (l := clearP l key)] at h1
  obtain ⟨i1, i2, i3⟩ := Inc.append.1 h1
  have hlt : ∀ p ∈ (clearP l key).takeWhile (fun p => decide (p.1 < key)), p.1 < key := take_lt key _
  have hgt : ∀ p ∈ (clearP l key).dropWhile (fun p => decide (p.1 < key)), key < p.1 := fun p hp => by
    have h2 := drop_ge hc key p hp
    have h3 : p ∈ clearP l key := (List.dropWhile_sublist _).subset hp
    have h4 : p.1 ≠ key := by simpa using (List.mem_filter.1 h3).2
    omega
  refine Inc.append.2 ⟨i1, Inc.cons.2 ⟨hgt, i2⟩, fun p hp q hq => ?_⟩
  rcases List.mem_cons.1 hq with rfl | hq
  · exact hlt p hp
  · exact i3 p hp q hq
theorem setP_look (l : List (Int × Int)) (key value k : Int) : lookP (setP l key value) k = if k = key then some value else lookP l k := by
  have hc : lookP ((clearP l key).takeWhile (fun p => decide (p.1 < key)) ++ (clearP l key).dropWhile (fun p => decide (p.1 < key))) k = lookP (clearP l key) k := by rw [List.takeWhile_append_dropWhile]
  unfold setP
  rw [lookP_append] at hc ⊢
  rw [clearP_look] at hc
  rw [lookP]
  by_cases hk : k = key
  · rw [if_pos hk] at hc ⊢
    rw [if_pos hk.symm]
    have : lookP ((clearP l key).takeWhile (fun p => decide (p.1 < key))) k = none := by
      cases h : lookP ((clearP l key).takeWhile (fun p => decide (p.1 < key))) k with
      | none => rfl
      | some x => rw [h] at hc; simp at hc
    rw [this]; rfl
  · rw [if_neg hk] at hc ⊢
    rw [if_neg (fun h => hk h.symm), hc]
def mergeR (a b : List (Int × Int)) : List (Int × Int) := b.foldl (fun out p => setP out p.1 p.2) a
theorem mergeR_spec : ∀ (b a : List (Int × Int)), Inc (keysP a) → Inc (keysP b) → Inc (keysP (mergeR a b)) ∧ ∀ k, lookP (mergeR a b) k = (lookP b k).or (lookP a k)
  | [], a, ha, _ => ⟨ha, fun k => rfl⟩
  | y :: b, a, ha, hb => by
    obtain ⟨h1, h2⟩ := Inc.cons'.1 hb
    obtain ⟨i1, i2⟩ := mergeR_spec b (setP a y.1 y.2) (setP_inc ha _ _) h2
    refine ⟨i1, fun k => ?_⟩
    have : mergeR a (y :: b) = mergeR (setP a y.1 y.2) b := rfl
    rw [this, i2, setP_look, lookP]
    by_cases hk : k = y.1
    · rw [if_pos hk, if_pos hk.symm, lookP_gt fun p hp => by have := h1 p hp; omega]; rfl
    · rw [if_neg hk, if_neg (fun h => hk h.symm)]
theorem mergeR_len : ∀ (b a : List (Int × Int)), (mergeR a b).length ≤ a.length + b.length
  | [], a => by simp [mergeR]
  | y :: b, a => by
    have h1 := mergeR_len b (setP a y.1 y.2)
    have h2 := setP_len a y.1 y.2
    have : mergeR a (y :: b) = mergeR (setP a y.1 y.2) b := rfl
    rw [this, List.length_cons]; omega
theorem mergeP_eq {a b : List (Int × Int)} (ha : Inc (keysP a)) (hb : Inc (keysP b)) : mergeP a b = mergeR a b := by
  obtain ⟨h1, h2⟩ := mergeP_spec a b ha hb
  obtain ⟨h3, h4⟩ := mergeR_spec b a ha hb
  exact lookP_ext _ _ h1 h3 fun k => by rw [h2, h4]
theorem getP_look : ∀ (l : List (Int × Int)) (k d : Int), getP l k d = (lookP l k).getD d
  | [], _, _ => rfl
  | (k', v) :: l, k, d => by
    rw [getP, lookP]
    split
    · rfl
    · exact getP_look l k d
/-! ### the first properties with increasing keys -/
def ordStep (out : List (Int × Int)) (p : Int × Int) : List (Int × Int) := if out.length < 60 ∧ (out.length = 0 ∨ (pAt out (out.length - 1)).1 < p.1) then out ++ [p] else out
def ordTo (l : List (Int × Int)) : Nat → List (Int × Int)
  | 0 => []
  | i + 1 => ordStep (ordTo l i) (pAt l i)
def ordP (l : List (Int × Int)) : List (Int × Int) := ordTo l l.length
theorem ordTo_spec (l : List (Int × Int)) : ∀ i, Inc (keysP (ordTo l i)) ∧ (ordTo l i).length ≤ 60
  | 0 => ⟨by simp [ordTo, Inc, keysP], by simp [ordTo]⟩
  | i + 1 => by
    obtain ⟨h1, h2⟩ := ordTo_spec l i
    rw [ordTo, ordStep]
    split
    · rename_i h
      refine ⟨Inc.append.2 ⟨h1, by simp [Inc, keysP], fun p hp q hq => ?_⟩, by simp; omega⟩
      obtain rfl : q = pAt l i := by simpa using hq
      rcases h.2 with h0 | h0
      · rw [List.length_eq_zero_iff.1 h0] at hp; cases hp
      · obtain ⟨j, hj, rfl⟩ := List.getElem_of_mem hp
        have hlast : (pAt (ordTo l i) ((ordTo l i).length - 1)).1 < (pAt l i).1 := h0
        rcases Nat.lt_or_ge j ((ordTo l i).length - 1) with hlt | hge
        · have h3 := h1.lt hlt (by rw [keysP_len]; omega)
          rw [kAt_keysP _ _ hj, kAt_keysP _ _ (by omega)] at h3
          have e1 : pAt (ordTo l i) (j : Int) = (ordTo l i)[j] := by simp [pAt, hj]
          rw [e1, show (((ordTo l i).length - 1 : Nat) : Int) = (ordTo l i).length - 1 by omega] at h3
          omega
        · have e1 : pAt (ordTo l i) ((ordTo l i).length - 1) = (ordTo l i)[j] := by
            have e2 : ((ordTo l i).length - 1 : Int).toNat = j := by omega
            unfold pAt; rw [e2]; simp [hj]
          rw [e1] at hlast; exact hlast
    · exact ⟨h1, h2⟩
theorem ordTo_full (l : List (Int × Int)) : ∀ (d i : Nat), 60 ≤ (ordTo l i).length → ordTo l (i + d) = ordTo l i
  | 0, _, _ => rfl
  | d + 1, i, h => by
    rw [← Nat.add_assoc, ordTo, ordTo_full l d i h, ordStep, if_neg (by omega)]
theorem ordP_inc (l : List (Int × Int)) : Inc (keysP (ordP l)) := (ordTo_spec l _).1
theorem ordP_len (l : List (Int × Int)) : (ordP l).length ≤ 60 := (ordTo_spec l _).2
end Go.Ob
