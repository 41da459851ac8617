import Derived.Test.YtkmgogabbefonaaDoorE8
import Derived.Laws.IdiomArrays
set_option linter.unusedVariables false
set_option linter.unusedSimpArgs false
namespace Go.Ob
open Go.Proofs

/-! ### plain: three-way comparison, the first place at which a sorted list is not below a number -/
def cmpI (a b : Int) : Int := if a < b then -1 else if b < a then 1 else 0
theorem cmpI_neg (a b : Int) : cmpI a b < 0 ↔ a < b := by
  unfold cmpI; repeat' split
  all_goals omega
theorem cmpI_zero (a b : Int) : cmpI a b = 0 ↔ a = b := by
  unfold cmpI; repeat' split
  all_goals omega
def lbI (ks : List Int) (t : Int) : Nat := (ks.takeWhile (· < t)).length
def kAt (ks : List Int) (i : Nat) : Int := ks.getD i 0
def Inc (ks : List Int) : Prop := ks.Pairwise (· < ·)
theorem Inc.lt {ks : List Int} (h : Inc ks) {i j : Nat} (hij : i < j) (hj : j < ks.length) : kAt ks i < kAt ks j := by
  have := List.pairwise_iff_getElem.1 h i j (by omega) hj hij
  simpa [kAt, List.getD_eq_getElem?_getD, hj, show i < ks.length by omega] using this
theorem lbI_eq (ks : List Int) (t : Int) : ∀ (i : Nat), i ≤ ks.length → (∀ j, j < i → kAt ks j < t) → (i < ks.length → t ≤ kAt ks i) → lbI ks t = i := by
  unfold lbI
  induction ks with
  | nil => intro i hi _ _; simp at hi; simp [hi]
  | cons k ks ih =>
    intro i hi h1 h2
    cases i with
    | zero =>
      have := h2 (by simp)
      simp only [kAt, List.getD_cons_zero] at this
      simp [show ¬ k < t by omega]
    | succ i =>
      have h0 := h1 0 (by omega)
      simp only [kAt, List.getD_cons_zero] at h0
      rw [List.takeWhile_cons, if_pos (by simpa using h0), List.length_cons]
      rw [ih i (by simpa using hi) (fun j hj => by simpa [kAt] using h1 (j + 1) (by omega)) (fun hl => by simpa [kAt] using h2 (by simpa using hl))]
theorem lbI_le (ks : List Int) (t : Int) : lbI ks t ≤ ks.length := by
  unfold lbI
  exact (List.takeWhile_prefix _).length_le
def inI (ks : List Int) (t : Int) : Bool := decide (lbI ks t < ks.length ∧ kAt ks (lbI ks t) = t)

/-! ### lists of properties -/
def encP (ps : List (Int × Int)) : List (List D) := ps.map fun p => [.v (.int .i64 p.1), .v (.int .i64 p.2)]
theorem encP_len (ps : List (Int × Int)) : (encP ps).length = ps.length := by simp [encP]
def pAt (ps : List (Int × Int)) (i : Int) : Int × Int := ps.getD i.toNat (0, 0)
theorem encP_get (ps : List (Int × Int)) (i : Int) (h0 : 0 ≤ i) (h1 : i < ps.length) : (encP ps)[i.toNat]? = some [.v (.int .i64 (pAt ps i).1), .v (.int .i64 (pAt ps i).2)] := by
  have : i.toNat < ps.length := by omega
  simp [encP, pAt, this]
def keysP (ps : List (Int × Int)) : List Int := ps.map (·.1)
theorem keysP_len (ps : List (Int × Int)) : (keysP ps).length = ps.length := by simp [keysP]
theorem kAt_keysP (ps : List (Int × Int)) (i : Nat) (h : i < ps.length) : kAt (keysP ps) i = (pAt ps i).1 := by simp [kAt, keysP, pAt, h]
def getP : List (Int × Int) → Int → Int → Int
  | [], _, dflt => dflt
  | (k, v) :: ps, key, dflt => if k = key then v else getP ps key dflt
def hasP (ps : List (Int × Int)) (key : Int) : Bool := ps.any (·.1 == key)
theorem getP_drop (ps : List (Int × Int)) (i : Int) (h0 : 0 ≤ i) (h1 : i < ps.length) (key dflt : Int) :
    getP (ps.drop i.toNat) key dflt = if (pAt ps i).1 = key then (pAt ps i).2 else getP (ps.drop (i + 1).toNat) key dflt := by
  have hl : i.toNat < ps.length := by omega
  rw [List.drop_eq_getElem_cons hl, show (i + 1).toNat = i.toNat + 1 by omega]
  simp [getP, pAt, hl]
/-- the place of a key in an ordered list, and what lies there -/
theorem getP_lb (ps : List (Int × Int)) (key dflt : Int) (hinc : Inc (keysP ps)) : getP ps key dflt = if inI (keysP ps) key = true then (pAt ps (lbI (keysP ps) key)).2 else dflt := by
  induction ps with
  | nil => simp [getP, inI, keysP]
  | cons p ps ih =>
    obtain ⟨k, v⟩ := p
    have ih := ih (List.pairwise_cons.1 hinc).2
    by_cases hk : k < key
    · have e1 : lbI (keysP ((k, v) :: ps)) key = lbI (keysP ps) key + 1 := by simp [lbI, keysP, hk]
      have e2 : inI (keysP ((k, v) :: ps)) key = inI (keysP ps) key := by
        unfold inI; rw [e1]; simp [keysP, kAt]
      rw [e2, getP, if_neg (by omega), ih]
      by_cases h : inI (keysP ps) key = true
      · rw [if_pos h, if_pos h, e1]
        unfold pAt
        rw [Int.toNat_natCast, Int.toNat_natCast, List.getD_cons_succ]
      · rw [if_neg h, if_neg h]
    · have e1 : lbI (keysP ((k, v) :: ps)) key = 0 := by simp [lbI, keysP, hk]
      have e2 : inI (keysP ((k, v) :: ps)) key = decide (k = key) := by
        unfold inI; rw [e1]; simp [keysP, kAt]
      rw [e2, getP]
      by_cases h : k = key
      · rw [if_pos h, if_pos (by simpa using h), e1]; rfl
      · rw [if_neg h]
        simp only [h, decide_false, Bool.false_eq_true, if_false]
        have : ∀ (qs : List (Int × Int)), (∀ q ∈ qs, key < q.1) → getP qs key dflt = dflt := by
          intro qs
          induction qs with
          | nil => intro _; rfl
          | cons q qs ihq => intro hq; rw [getP, if_neg (by have := hq q (by simp); omega)]; exact ihq fun q' hq' => hq q' (by simp [hq'])
        refine this ps fun q hq => ?_
        have : k < q.1 := (List.pairwise_cons.1 hinc).1 q.1 (List.mem_map.2 ⟨q, hq, rfl⟩)
        omega
set_option maxRecDepth 100000 in
theorem isNaN_spec (x : Int) : Fun Tryd.prog 72 [.v (.int .i64 x)] (.v (.bool false)) := by
  refine Fun.enter (n := 6) (rs := [.tmp 2]) Tryd.func72 rfl Tryd.ntmps72 Tryd.results72 rfl (fun w F => ?_)
  refine TC.seq ?_
  refine TC.region ?_
  refine TL.run1 (pure_assign rfl) rfl ?_
  refine TL.nil' ?_
  refine TC.seq ?_
  refine TC.region ?_
  refine TL.run1 (pure_move rfl) rfl ?_
  refine TL.run1 (pure_move rfl) rfl ?_
  refine TL.run1 (pure_neq rfl rfl) rfl ?_
  refine TL.run1 (pure_assign rfl) rfl ?_
  refine TL.nil' ?_
  refine TC.ret ?_
  exact ret_bool rfl (by simp)
set_option maxRecDepth 100000 in
theorem compare_spec (x y : Int) : Fun Tryd.prog 62 [.v (.int .i64 x), .v (.int .i64 y)] (.v (.int .i64 (cmpI x y))) := by
  refine Fun.enter (n := 20) (rs := [.tmp 4]) Tryd.func62 rfl Tryd.ntmps62 Tryd.results62 rfl (fun w F => ?_)
  refine TC.seq ?_
  refine TC.region ?_
  refine TL.run1 (pure_assign rfl) rfl ?_
  refine TL.nil' ?_
  refine TC.seq ?_
  refine TC.region ?_
  refine TL.run1 (pure_move rfl) rfl ?_
  refine TL.run1 (pure_call (isNaN_spec _) (.cons rfl .nil) Tryd.call72) rfl ?_
  refine TL.run1 (pure_assign rfl) rfl ?_
  refine TL.nil' ?_
  refine TC.seq ?_
  refine TC.region ?_
  refine TL.run1 (pure_move rfl) rfl ?_
  refine TL.run1 (pure_call (isNaN_spec _) (.cons rfl .nil) Tryd.call72) rfl ?_
  refine TL.run1 (pure_assign rfl) rfl ?_
  refine TL.nil' ?_
  refine TC.seq ?_
  refine TC.seq ?_
  refine TC.region ?_
  refine TL.run1 (pure_move rfl) rfl ?_
  refine TL.nil' ?_
  first | refine TC.condD rfl (fun hc11 => ?_) (fun hc11 => ?_) | refine TC.condN rfl (fun hc11 => ?_) (fun hc11 => ?_) | refine TC.cond rfl (fun hc11 => ?_) (fun hc11 => ?_)
  · try dsimp only at hc11
    refine TC.seq ?_
    refine TC.seq ?_
    refine TC.region ?_
    refine TL.run1 (pure_move rfl) rfl ?_
    refine TL.nil' ?_
    first | refine TC.condD rfl (fun hc12 => ?_) (fun hc12 => ?_) | refine TC.condN rfl (fun hc12 => ?_) (fun hc12 => ?_) | refine TC.cond rfl (fun hc12 => ?_) (fun hc12 => ?_)
    · try dsimp only at hc12
      refine TC.seq ?_
      refine TC.region ?_
      refine TL.run1 (pure_assign rfl) rfl ?_
      refine TL.nil' ?_
      refine TC.ret ?_
      refine then_ret ?_
      refine then_ret ?_
      first | (exact absurd ‹false = true› (by simp)) | exact ret_int rfl (by unfold cmpI; first | rw [if_pos ‹_›] | rw [if_neg ‹_›, if_pos ‹_›] | rw [if_neg ‹_›, if_neg ‹_›])
    · try dsimp only at hc12
      refine TC.skip' ?_
      refine TC.seq ?_
      refine TC.region ?_
      refine TL.run1 (pure_assign rfl) rfl ?_
      refine TL.nil' ?_
      refine TC.ret ?_
      refine then_ret ?_
      first | (exact absurd ‹false = true› (by simp)) | exact ret_int rfl (by unfold cmpI; first | rw [if_pos ‹_›] | rw [if_neg ‹_›, if_pos ‹_›] | rw [if_neg ‹_›, if_neg ‹_›])
  · try dsimp only at hc11
    refine TC.skip' ?_
    refine TC.seq ?_
    refine TC.seq ?_
    refine TC.region ?_
    refine TL.run1 (pure_move rfl) rfl ?_
    refine TL.nil' ?_
    first | refine TC.condD rfl (fun hc13 => ?_) (fun hc13 => ?_) | refine TC.condN rfl (fun hc13 => ?_) (fun hc13 => ?_) | refine TC.cond rfl (fun hc13 => ?_) (fun hc13 => ?_)
    · try dsimp only at hc13
      refine TC.seq ?_
      refine TC.region ?_
      refine TL.run1 (pure_assign rfl) rfl ?_
      refine TL.nil' ?_
      refine TC.ret ?_
      refine then_ret ?_
      first | (exact absurd ‹false = true› (by simp)) | exact ret_int rfl (by unfold cmpI; first | rw [if_pos ‹_›] | rw [if_neg ‹_›, if_pos ‹_›] | rw [if_neg ‹_›, if_neg ‹_›])
    · try dsimp only at hc13
      refine TC.skip' ?_
      refine TC.seq ?_
      refine TC.seq ?_
      refine TC.region ?_
      refine TL.run1 (pure_move rfl) rfl ?_
      refine TL.run1 (pure_move rfl) rfl ?_
      refine TL.run1 (pure_lss rfl rfl) rfl ?_
      refine TL.nil' ?_
      first | refine TC.condD rfl (fun hc16 => ?_) (fun hc16 => ?_) | refine TC.condN rfl (fun hc16 => ?_) (fun hc16 => ?_) | refine TC.cond rfl (fun hc16 => ?_) (fun hc16 => ?_)
      · try dsimp only at hc16
        refine TC.seq ?_
        refine TC.region ?_
        refine TL.run1 (pure_assign rfl) rfl ?_
        refine TL.nil' ?_
        refine TC.ret ?_
        refine then_ret ?_
        first | (exact absurd ‹false = true› (by simp)) | exact ret_int rfl (by unfold cmpI; first | rw [if_pos ‹_›] | rw [if_neg ‹_›, if_pos ‹_›] | rw [if_neg ‹_›, if_neg ‹_›])
      · try dsimp only at hc16
        refine TC.skip' ?_
        refine TC.seq ?_
        refine TC.seq ?_
        refine TC.region ?_
        refine TL.run1 (pure_move rfl) rfl ?_
        refine TL.run1 (pure_move rfl) rfl ?_
        refine TL.run1 (pure_gtr rfl rfl) rfl ?_
        refine TL.nil' ?_
        first | refine TC.condD rfl (fun hc19 => ?_) (fun hc19 => ?_) | refine TC.condN rfl (fun hc19 => ?_) (fun hc19 => ?_) | refine TC.cond rfl (fun hc19 => ?_) (fun hc19 => ?_)
        · try dsimp only at hc19
          refine TC.seq ?_
          refine TC.region ?_
          refine TL.run1 (pure_assign rfl) rfl ?_
          refine TL.nil' ?_
          refine TC.ret ?_
          refine then_ret ?_
          first | (exact absurd ‹false = true› (by simp)) | exact ret_int rfl (by unfold cmpI; first | rw [if_pos ‹_›] | rw [if_neg ‹_›, if_pos ‹_›] | rw [if_neg ‹_›, if_neg ‹_›])
        · try dsimp only at hc19
          refine TC.skip' ?_
          refine TC.seq ?_
          refine TC.region ?_
          refine TL.run1 (pure_assign rfl) rfl ?_
          refine TL.nil' ?_
          refine TC.ret ?_
          first | (exact absurd ‹false = true› (by simp)) | exact ret_int rfl (by unfold cmpI; first | rw [if_pos ‹_›] | rw [if_neg ‹_›, if_pos ‹_›] | rw [if_neg ‹_›, if_neg ‹_›])
set_option maxRecDepth 100000 in
theorem search1_spec (k v t : Int) : Fun Tryd.prog 77 [.agg [.v (.int .i64 k), .v (.int .i64 v)], .v (.int .i64 t)] (.v (.int .i64 (cmpI k t))) := by
  refine Fun.enter (n := 9) (rs := [.tmp 4]) Tryd.func77 rfl Tryd.ntmps77 Tryd.results77 rfl (fun w F => ?_)
  refine TC.seq ?_
  refine TC.region ?_
  refine TL.box rfl (.agg _) rfl (fun g2 => ?_)
  refine TL.run1 (pure_assign rfl) rfl ?_
  refine TL.nil' ?_
  refine TC.seq ?_
  refine TC.region ?_
  first | refine TL.run1 (pure_fieldAddr Ty.f56_0 rfl (.zero _) (List.cons_ne_nil _ _)) rfl ?_ | refine TL.run1 (pure_fieldAddr_own Ty.f56_0 rfl) rfl ?_
  first | refine TL.run1 (pure_load1 Ty.one3 rfl) rfl ?_ | refine TL.run1 (pure_load1_own Ty.one3 rfl (by repeat (first | exact List.Mem.head _ | apply List.Mem.tail)) (by repeat (first | exact DropR.zero _ | apply DropR.succ))) rfl ?_
  refine TL.run1 (pure_move rfl) rfl ?_
  refine TL.run1 (pure_call (compare_spec _ _) (.cons rfl (.cons rfl .nil)) Tryd.call62) rfl ?_
  refine TL.run1 (pure_assign rfl) rfl ?_
  refine TL.nil' ?_
  refine TC.ret ?_
  exact ret_int rfl rfl
set_option maxRecDepth 100000 in
theorem bsP_spec (ps : List (Int × Int)) (t : Int) (hinc : Inc (keysP ps)) (hl : ps.length ≤ 1000000) : Fun Tryd.prog 76 [.sl 2 (encP ps), .v (.int .i64 t), .fn 77 []] (.tup [.v (.int .i64 (lbI (keysP ps) t)), .v (.bool (inI (keysP ps) t))]) := by
  have hk1 := encP_len ps
  have hk2 := keysP_len ps
  refine Fun.enter (n := 49) (rs := [.tmp 6, .tmp 7]) Tryd.func76 rfl Tryd.ntmps76 Tryd.results76 rfl (fun w F => ?_)
  refine TC.seq ?_
  refine TC.region ?_
  refine TL.run1 (pure_assign rfl) rfl ?_
  refine TL.run1 (pure_assign rfl) rfl ?_
  refine TL.nil' ?_
  refine TC.seq ?_
  refine TC.region ?_
  refine TL.run1 (pure_move rfl) rfl ?_
  first | refine TL.run1 (pure_len Ty.sl57 rfl) rfl ?_ | refine TL.run1 (pure_len_row Ty.sl57 rfl (by repeat (first | exact List.Mem.head _ | apply List.Mem.tail))) rfl ?_ | refine TL.run1 (pure_len_nil Ty.sl57 rfl) rfl ?_
  refine TL.run1 (pure_assign rfl) rfl ?_
  refine TL.nil' ?_
  refine TC.seq ?_
  refine TC.region ?_
  refine TL.run1 (pure_move rfl) rfl ?_
  refine TL.run1 (pure_assign rfl) rfl ?_
  refine TL.run1 (pure_assign rfl) rfl ?_
  refine TL.nil' ?_
  refine TC.seq ?_
  refine TC.block ?_
  refine TC.loopX (X := Int × Int) (fun x => [(0, .sl 2 (encP ps)), (1, .v (.int .i64 t)), (2, .fn 77 []), (8, .v (.int .i64 (encP ps).length)), (9, .v (.int .i64 x.1)), (10, .v (.int .i64 x.2))]) (fun _ => []) (fun x => 0 ≤ x.1 ∧ x.1 ≤ x.2 ∧ x.2 ≤ (keysP ps).length ∧ (∀ j : Nat, j < x.1.toNat → kAt (keysP ps) j < t) ∧ (∀ j : Nat, x.2.toNat ≤ j → j < (keysP ps).length → t ≤ kAt (keysP ps) j)) (fun x => (x.2 - x.1).toNat) (0, (encP ps).length) ⟨by skip; repeat (first | exact Agree.nil | refine Agree.cons rfl ?_), by skip; repeat (first | exact List.nil_sublist _ | exact List.Sublist.refl _ | apply List.Sublist.cons_cons | apply List.Sublist.cons)⟩ ?_ ?_
  · skip
    exact ⟨by omega, by omega, by omega, fun j hj => by simp at hj, fun j h1 h2 => by simp at h1; omega⟩
  rintro ⟨i, j⟩ ⟨h0, h1, h2, h3, h4⟩
  dsimp only at h0 h1 h2 h3 h4
  refine TC.seq ?_
  refine TC.seq ?_
  refine TC.region ?_
  refine TL.run1 (pure_move rfl) rfl ?_
  refine TL.run1 (pure_move rfl) rfl ?_
  refine TL.run1 (pure_lss rfl rfl) rfl ?_
  refine TL.nil' ?_
  first | refine TC.condD rfl (fun hc17 => ?_) (fun hc17 => ?_) | refine TC.condN rfl (fun hc17 => ?_) (fun hc17 => ?_) | refine TC.cond rfl (fun hc17 => ?_) (fun hc17 => ?_)
  · try dsimp only at hc17
    refine TC.skip' ?_
    refine TC.block ?_
    refine TC.seq ?_
    refine TC.region ?_
    refine TL.run1 (pure_move rfl) rfl ?_
    refine TL.run1 (pure_move rfl) rfl ?_
    refine TL.run1 (pure_add rfl rfl (mkI64 (by omega) (by omega))) rfl ?_
    refine TL.run1 (pure_conv Tryd.underlying3 Tryd.underlying87 rfl (fit_u64 (by omega) (by omega))) rfl ?_
    refine TL.run1 (pure_shrl (m := 2) (by rfl) rfl rfl (by decide) (by decide)) rfl ?_
    refine TL.run1 (pure_conv Tryd.underlying87 Tryd.underlying3 rfl (fit_i64 (by omega) (by omega))) rfl ?_
    refine TL.run1 (pure_assign rfl) rfl ?_
    refine TL.nil' ?_
    refine TC.seq ?_
    have hb : 0 ≤ (i + j) / 2 ∧ (i + j) / 2 < j ∧ i ≤ (i + j) / 2 := by omega
    have hrow := encP_get ps ((i + j) / 2) (by omega) (by omega)
    have hka := kAt_keysP ps (((i + j) / 2)).toNat (by omega)
    rw [show (((((i + j) / 2)).toNat : Nat) : Int) = ((i + j) / 2) by omega] at hka
    rw [← hka] at hrow
    refine TC.region ?_
    refine TL.run1 (pure_move rfl) rfl ?_
    refine TL.run1 (pure_move rfl) rfl ?_
    refine TL.run1 (pure_move rfl) rfl ?_
    refine TL.run1 (pure_indexAddr Ty.sl57 rfl rfl (by omega) (by assumption) (List.cons_ne_nil _ _)) rfl ?_
    first | refine TL.run1 (pure_load Ty.agg56 rfl (.succ (.succ (.zero _)))) rfl ?_ | refine TL.run1 (pure_load_own Ty.agg56 rfl (by repeat (first | exact List.Mem.head _ | apply List.Mem.tail)) (by repeat (first | exact DropR.zero _ | apply DropR.succ)) (.succ (.succ (.zero _)))) rfl ?_
    refine TL.run1 (pure_move rfl) rfl ?_
    refine TL.run1 (pure_callv rfl (search1_spec _ _ _) (.cons rfl (.cons rfl .nil)) Tryd.call77) rfl ?_
    refine TL.run1 (pure_lss rfl rfl) rfl ?_
    refine TL.nil' ?_
    first | refine TC.condD rfl (fun hc31 => ?_) (fun hc31 => ?_) | refine TC.condN rfl (fun hc31 => ?_) (fun hc31 => ?_) | refine TC.cond rfl (fun hc31 => ?_) (fun hc31 => ?_)
    · try dsimp only at hc31
      have hm : ((i + j) / 2).toNat < (keysP ps).length := by omega
      refine TC.region ?_
      refine TL.run1 (pure_move rfl) rfl ?_
      refine TL.run1 (pure_add rfl rfl (mkI64 (by omega) (by omega))) rfl ?_
      refine TL.run1 (pure_assign rfl) rfl ?_
      refine TL.nil ?_
      refine block_normal ?_
      first
        | (refine loop_next ((i + j) / 2 + 1, j) ⟨by repeat (first | exact Agree.nil | refine Agree.cons rfl ?_), by repeat (first | exact List.nil_sublist _ | exact List.Sublist.refl _ | apply List.Sublist.cons_cons | apply List.Sublist.cons)⟩ ⟨by omega, by omega, by omega, fun m hm1 => ?_, h4⟩ (by dsimp only; omega)
           have hq := (cmpI_neg _ _).1 hc31
           try rw [← hka] at hq
           rcases Nat.lt_or_ge m ((i + j) / 2).toNat with h | h
           · exact Int.lt_trans (hinc.lt h hm) hq
           · rw [show m = ((i + j) / 2).toNat by dsimp only at hm1; omega]; exact hq)
        | (refine loop_next (i, (i + j) / 2) ⟨by repeat (first | exact Agree.nil | refine Agree.cons rfl ?_), by repeat (first | exact List.nil_sublist _ | exact List.Sublist.refl _ | apply List.Sublist.cons_cons | apply List.Sublist.cons)⟩ ⟨by omega, by omega, by omega, h3, fun m hm1 hm2 => ?_⟩ (by dsimp only; omega)
           have hq : t ≤ kAt (keysP ps) ((i + j) / 2).toNat := by (have := mt (cmpI_neg _ _).2 hc31; (try rw [← hka] at this); omega)
           rcases Nat.eq_or_lt_of_le hm1 with h | h
           · rw [← h]; exact hq
           · exact Int.le_trans hq (Int.le_of_lt (hinc.lt h hm2)))
    · try dsimp only at hc31
      have hm : ((i + j) / 2).toNat < (keysP ps).length := by omega
      refine TC.region ?_
      refine TL.run1 (pure_move rfl) rfl ?_
      refine TL.run1 (pure_assign rfl) rfl ?_
      refine TL.nil ?_
      refine block_normal ?_
      first
        | (refine loop_next ((i + j) / 2 + 1, j) ⟨by repeat (first | exact Agree.nil | refine Agree.cons rfl ?_), by repeat (first | exact List.nil_sublist _ | exact List.Sublist.refl _ | apply List.Sublist.cons_cons | apply List.Sublist.cons)⟩ ⟨by omega, by omega, by omega, fun m hm1 => ?_, h4⟩ (by dsimp only; omega)
           have hq := (cmpI_neg _ _).1 hc31
           try rw [← hka] at hq
           rcases Nat.lt_or_ge m ((i + j) / 2).toNat with h | h
           · exact Int.lt_trans (hinc.lt h hm) hq
           · rw [show m = ((i + j) / 2).toNat by dsimp only at hm1; omega]; exact hq)
        | (refine loop_next (i, (i + j) / 2) ⟨by repeat (first | exact Agree.nil | refine Agree.cons rfl ?_), by repeat (first | exact List.nil_sublist _ | exact List.Sublist.refl _ | apply List.Sublist.cons_cons | apply List.Sublist.cons)⟩ ⟨by omega, by omega, by omega, h3, fun m hm1 hm2 => ?_⟩ (by dsimp only; omega)
           have hq : t ≤ kAt (keysP ps) ((i + j) / 2).toNat := by (have := mt (cmpI_neg _ _).2 hc31; (try rw [← hka] at this); omega)
           rcases Nat.eq_or_lt_of_le hm1 with h | h
           · rw [← h]; exact hq
           · exact Int.le_trans hq (Int.le_of_lt (hinc.lt h hm2)))
  · try dsimp only at hc17
    have hij : i = j := by omega
    subst hij
    have hlb : lbI (keysP ps) t = i.toNat := lbI_eq _ _ _ (by omega) h3 (fun hl => h4 _ (by omega) hl)
    refine TC.exit ?_
    refine then_exit ?_
    refine loop_exit ?_
    refine block_here ?_
    refine then_normal ?_
    refine TC.seq ?_
    refine TC.region ?_
    refine TL.run1 (pure_move rfl) rfl ?_
    refine TL.run1 (pure_move rfl) rfl ?_
    refine TL.run1 (pure_move rfl) rfl ?_
    refine TL.run1 (pure_lss rfl rfl) rfl ?_
    refine TL.run1 (pure_move rfl) rfl ?_
    first | refine TL.splitP 39 rfl (fun hg39 => ?_) (fun hg39 => ?_) | refine TL.split 39 rfl (fun hg39 => ?_) (fun hg39 => ?_)
    · try dsimp only at hg39
      have hrow := encP_get ps i (by omega) (by omega)
      have hka := kAt_keysP ps (i).toNat (by omega)
      rw [show (((i).toNat : Nat) : Int) = i by omega] at hka
      rw [← hka] at hrow
      refine TL.runG rfl rfl (pure_move rfl) rfl ?_
      refine TL.runG rfl rfl (pure_move rfl) rfl ?_
      refine TL.runG rfl rfl (pure_move rfl) rfl ?_
      refine TL.runG rfl rfl (pure_indexAddr Ty.sl57 rfl rfl (by omega) (by assumption) (List.cons_ne_nil _ _)) rfl ?_
      first | refine TL.runG rfl rfl (pure_load Ty.agg56 rfl (.succ (.succ (.zero _)))) rfl ?_ | refine TL.runG rfl rfl (pure_load_own Ty.agg56 rfl (by repeat (first | exact List.Mem.head _ | apply List.Mem.tail)) (by repeat (first | exact DropR.zero _ | apply DropR.succ)) (.succ (.succ (.zero _)))) rfl ?_
      refine TL.runG rfl rfl (pure_move rfl) rfl ?_
      refine TL.runG rfl rfl (pure_callv rfl (search1_spec _ _ _) (.cons rfl (.cons rfl .nil)) Tryd.call77) rfl ?_
      refine TL.runG rfl rfl (pure_eql rfl rfl) rfl ?_
      refine TL.run1 (pure_pick_true rfl rfl) rfl ?_
      refine TL.run1 (pure_assign rfl) rfl ?_
      refine TL.run1 (pure_assign rfl) rfl ?_
      refine TL.nil' ?_
      refine TC.ret ?_
      refine ret2 (.inl rfl) rfl rfl ?_
      rw [hlb, show ((i.toNat : Nat) : Int) = i by omega]; unfold inI; rw [hlb]
      by_cases hx : i.toNat < (keysP ps).length
      · try rw [← hka]
        simp [cmpI_zero, hx]
        try (exfalso; omega)
      · simp [hx]
        try (exfalso; omega)
    · try dsimp only at hg39
      refine TL.passG rfl rfl rfl rfl ?_
      refine TL.passG rfl rfl rfl rfl ?_
      refine TL.passG rfl rfl rfl rfl ?_
      refine TL.passG rfl rfl rfl rfl ?_
      refine TL.passG rfl rfl rfl rfl ?_
      refine TL.passG rfl rfl rfl rfl ?_
      refine TL.passG rfl rfl rfl rfl ?_
      refine TL.passG rfl rfl rfl rfl ?_
      refine TL.run1 (pure_pick_false rfl rfl) rfl ?_
      refine TL.run1 (pure_assign rfl) rfl ?_
      refine TL.run1 (pure_assign rfl) rfl ?_
      refine TL.nil' ?_
      refine TC.ret ?_
      refine ret2 (.inl rfl) rfl rfl ?_
      rw [hlb, show ((i.toNat : Nat) : Int) = i by omega]; unfold inI; rw [hlb]
      by_cases hx : i.toNat < (keysP ps).length
      · try rw [← hka]
        simp [cmpI_zero, hx]
        try (exfalso; omega)
      · simp [hx]
        try (exfalso; omega)
set_option maxRecDepth 100000 in
theorem searchP_spec (ps : List (Int × Int)) (t : Int) (hinc : Inc (keysP ps)) (hl : ps.length ≤ 1000000) : Fun Tryd.prog 73 [.sl 2 (encP ps), .v (.int .i64 t)] (.tup [.v (.int .i64 (lbI (keysP ps) t)), .v (.bool (inI (keysP ps) t))]) := by
  refine Fun.enter (n := 11) (rs := [.tmp 4, .tmp 5]) Tryd.func73 rfl Tryd.ntmps73 Tryd.results73 rfl (fun w F => ?_)
  refine TC.seq ?_
  refine TC.region ?_
  refine TL.run1 (pure_assign rfl) rfl ?_
  refine TL.run1 (pure_assign rfl) rfl ?_
  refine TL.nil' ?_
  refine TC.seq ?_
  refine TC.region ?_
  refine TL.run1 (pure_move rfl) rfl ?_
  refine TL.run1 (pure_move rfl) rfl ?_
  refine TL.run1 (pure_call (bsP_spec _ _ hinc hl) (.cons rfl (.cons rfl (.cons rfl .nil))) Tryd.call76) rfl ?_
  refine TL.run1 (pure_extract rfl rfl) rfl ?_
  refine TL.run1 (pure_extract rfl rfl) rfl ?_
  refine TL.run1 (pure_assign rfl) rfl ?_
  refine TL.run1 (pure_assign rfl) rfl ?_
  refine TL.nil' ?_
  refine TC.ret ?_
  exact ret2 (.inl rfl) rfl rfl rfl
set_option maxRecDepth 100000 in
theorem getPr_spec (ps : List (Int × Int)) (t : Int) (hinc : Inc (keysP ps)) (hl : ps.length ≤ 1000000) : Fun Tryd.prog 63 [.sl 2 (encP ps), .v (.int .i64 t)] (.tup [.v (.int .i64 (getP ps t 0)), .v (.bool (inI (keysP ps) t))]) := by
  refine Fun.enter (n := 21) (rs := [.tmp 4, .tmp 5]) Tryd.func63 rfl Tryd.ntmps63 Tryd.results63 rfl (fun w F => ?_)
  refine TC.seq ?_
  refine TC.region ?_
  refine TL.run1 (pure_assign rfl) rfl ?_
  refine TL.run1 (pure_assign rfl) rfl ?_
  refine TL.nil' ?_
  refine TC.seq ?_
  refine TC.region ?_
  refine TL.run1 (pure_move rfl) rfl ?_
  refine TL.run1 (pure_move rfl) rfl ?_
  refine TL.run1 (pure_call (searchP_spec _ _ hinc hl) (.cons rfl (.cons rfl .nil)) Tryd.call73) rfl ?_
  refine TL.run1 (pure_move rfl) rfl ?_
  refine TL.run1 (pure_extract rfl rfl) rfl ?_
  refine TL.run1 (pure_extract rfl rfl) rfl ?_
  refine TL.run1 (pure_assign rfl) rfl ?_
  refine TL.run1 (pure_assign rfl) rfl ?_
  refine TL.nil' ?_
  refine TC.seq ?_
  refine TC.seq ?_
  refine TC.region ?_
  refine TL.run1 (pure_move rfl) rfl ?_
  refine TL.run1 (pure_not rfl) rfl ?_
  refine TL.nil' ?_
  first | refine TC.condD rfl (fun hc15 => ?_) (fun hc15 => ?_) | refine TC.condN rfl (fun hc15 => ?_) (fun hc15 => ?_) | refine TC.cond rfl (fun hc15 => ?_) (fun hc15 => ?_)
  · try dsimp only at hc15
    have hin : inI (keysP ps) t = false := decide_eq_false hc15
    refine TC.seq ?_
    refine TC.region ?_
    refine TL.run1 (pure_assign rfl) rfl ?_
    refine TL.run1 (pure_assign rfl) rfl ?_
    refine TL.nil' ?_
    refine TC.ret ?_
    refine then_ret ?_
    exact ret2 (.inl rfl) rfl rfl (by rw [getP_lb ps t 0 hinc, hin]; rfl)
  · try dsimp only at hc15
    have hin : inI (keysP ps) t = true := decide_eq_true hc15
    have hlt : lbI (keysP ps) t < ps.length := by have := hin; unfold inI at this; simp [keysP_len] at this; exact this.1
    have hrow := encP_get ps (lbI (keysP ps) t) (by omega) (by omega)
    refine TC.skip' ?_
    refine TC.seq ?_
    refine TC.region ?_
    refine TL.run1 (pure_move rfl) rfl ?_
    refine TL.run1 (pure_move rfl) rfl ?_
    refine TL.run1 (pure_indexAddr Ty.sl57 rfl rfl (by omega) (by assumption) (List.cons_ne_nil _ _)) rfl ?_
    first | refine TL.run1 (pure_fieldAddr Ty.f56_1 rfl (.succ (.zero _)) (List.cons_ne_nil _ _)) rfl ?_ | refine TL.run1 (pure_fieldAddr_own Ty.f56_1 rfl) rfl ?_
    first | refine TL.run1 (pure_load1 Ty.one3 rfl) rfl ?_ | refine TL.run1 (pure_load1_own Ty.one3 rfl (by repeat (first | exact List.Mem.head _ | apply List.Mem.tail)) (by repeat (first | exact DropR.zero _ | apply DropR.succ))) rfl ?_
    refine TL.run1 (pure_assign rfl) rfl ?_
    refine TL.run1 (pure_assign rfl) rfl ?_
    refine TL.nil' ?_
    refine TC.ret ?_
    exact ret2 (.inl rfl) rfl rfl (by rw [getP_lb ps t 0 hinc, hin]; rfl)

/-! ### the table of keys -/
structure KeyE where
  num : Int
  group : Int
  low : Int
  high : Int
  std : Int
  name : ByteArray
def encK1 (k : KeyE) : List D := [.v (.int .i64 k.num), .v (.int .i64 k.group), .v (.int .i64 k.low), .v (.int .i64 k.high), .v (.int .i64 k.std), .v (.string k.name)]
def encK (t : List KeyE) : List (List D) := t.map encK1
def keysK (t : List KeyE) : List Int := t.map (·.num)
def kE0 : KeyE := ⟨0, 0, 0, 0, 0, ⟨#[]⟩⟩
def eAt (t : List KeyE) (i : Int) : KeyE := t.getD i.toNat kE0
theorem encK_len (t : List KeyE) : (encK t).length = t.length := by simp [encK]
theorem keysK_len (t : List KeyE) : (keysK t).length = t.length := by simp [keysK]
theorem encK_get (t : List KeyE) (i : Int) (h0 : 0 ≤ i) (h1 : i < t.length) : (encK t)[i.toNat]? = some (encK1 (eAt t i)) := by
  have : i.toNat < t.length := by omega
  simp [encK, eAt, this]
theorem kAt_keysK (t : List KeyE) (i : Nat) (h : i < t.length) : kAt (keysK t) i = (eAt t i).num := by simp [kAt, keysK, eAt, h]
def tableK : List KeyE := [
  ⟨1, 1, 0, 1073741824, 0, ⟨#[99, 104, 97, 114, 97, 99, 116, 101, 114, 45, 115, 116, 121, 108, 101]⟩⟩,
  ⟨2, 1, 0, 1, 0, ⟨#[98, 111, 108, 100]⟩⟩,
  ⟨3, 1, 0, 1, 0, ⟨#[105, 116, 97, 108, 105, 99]⟩⟩,
  ⟨4, 1, 0, 3, 0, ⟨#[117, 110, 100, 101, 114, 108, 105, 110, 101]⟩⟩,
  ⟨5, 1, 2, 1638, 22, ⟨#[115, 105, 122, 101]⟩⟩,
  ⟨6, 1, 0, 16777215, 0, ⟨#[99, 111, 108, 111, 114]⟩⟩,
  ⟨7, 1, 0, 63, 0, ⟨#[102, 111, 110, 116]⟩⟩,
  ⟨8, 1, 0, 255, 0, ⟨#[108, 97, 110, 103, 117, 97, 103, 101]⟩⟩,
  ⟨9, 1, (-400), 400, 0, ⟨#[114, 97, 105, 115, 101]⟩⟩,
  ⟨10, 1, 0, 1, 0, ⟨#[104, 105, 100, 100, 101, 110]⟩⟩,
  ⟨20, 2, 0, 1073741824, 0, ⟨#[112, 97, 114, 97, 103, 114, 97, 112, 104, 45, 115, 116, 121, 108, 101]⟩⟩,
  ⟨21, 2, 0, 3, 0, ⟨#[97, 108, 105, 103, 110]⟩⟩,
  ⟨22, 2, (-31680), 31680, 0, ⟨#[108, 101, 102, 116]⟩⟩,
  ⟨23, 2, (-31680), 31680, 0, ⟨#[114, 105, 103, 104, 116]⟩⟩,
  ⟨24, 2, (-31680), 31680, 0, ⟨#[102, 105, 114, 115, 116]⟩⟩,
  ⟨25, 2, 0, 31680, 0, ⟨#[98, 101, 102, 111, 114, 101]⟩⟩,
  ⟨26, 2, 0, 31680, 0, ⟨#[97, 102, 116, 101, 114]⟩⟩,
  ⟨27, 2, 0, 31680, 0, ⟨#[108, 101, 97, 100, 105, 110, 103]⟩⟩,
  ⟨28, 2, 0, 1, 0, ⟨#[107, 101, 101, 112, 45, 110, 101, 120, 116]⟩⟩,
  ⟨29, 2, 0, 1, 0, ⟨#[107, 101, 101, 112, 45, 108, 105, 110, 101, 115]⟩⟩,
  ⟨30, 2, 0, 1, 1, ⟨#[119, 105, 100, 111, 119]⟩⟩,
  ⟨31, 2, 0, 1, 0, ⟨#[112, 97, 103, 101, 45, 98, 101, 102, 111, 114, 101]⟩⟩,
  ⟨32, 2, 0, 9, 0, ⟨#[111, 117, 116, 108, 105, 110, 101]⟩⟩,
  ⟨33, 2, 0, 1073741824, 0, ⟨#[108, 105, 115, 116]⟩⟩,
  ⟨34, 2, 1, 9, 1, ⟨#[108, 101, 118, 101, 108]⟩⟩,
  ⟨35, 2, 0, 32767, 0, ⟨#[114, 101, 115, 116, 97, 114, 116]⟩⟩,
  ⟨36, 2, 1, 31680, 720, ⟨#[116, 97, 98, 45, 115, 116, 111, 112]⟩⟩,
  ⟨37, 2, 0, 1, 0, ⟨#[104, 121, 112, 104, 101, 110, 97, 116, 101]⟩⟩,
  ⟨40, 3, 720, 31680, 12240, ⟨#[112, 97, 103, 101, 45, 119, 105, 100, 116, 104]⟩⟩,
  ⟨41, 3, 720, 31680, 15840, ⟨#[112, 97, 103, 101, 45, 104, 101, 105, 103, 104, 116]⟩⟩,
  ⟨42, 3, 0, 31680, 1440, ⟨#[116, 111, 112]⟩⟩,
  ⟨43, 3, 0, 31680, 1440, ⟨#[98, 111, 116, 116, 111, 109]⟩⟩,
  ⟨44, 3, 0, 31680, 1440, ⟨#[105, 110, 110, 101, 114]⟩⟩,
  ⟨45, 3, 0, 31680, 1440, ⟨#[111, 117, 116, 101, 114]⟩⟩,
  ⟨46, 3, 0, 32767, 0, ⟨#[102, 105, 114, 115, 116, 45, 112, 97, 103, 101]⟩⟩,
  ⟨47, 3, 1, 6, 1, ⟨#[112, 97, 103, 101, 45, 102, 111, 114, 109, 97, 116]⟩⟩,
  ⟨50, 4, 0, 1, 0, ⟨#[104, 101, 97, 100, 101, 114]⟩⟩,
  ⟨51, 4, 0, 1, 0, ⟨#[99, 97, 110, 116, 45, 115, 112, 108, 105, 116]⟩⟩,
  ⟨52, 4, 0, 31680, 0, ⟨#[114, 111, 119, 45, 104, 101, 105, 103, 104, 116]⟩⟩,
  ⟨60, 5, 1, 32, 1, ⟨#[99, 111, 108, 117, 109, 110, 45, 115, 112, 97, 110]⟩⟩,
  ⟨61, 5, 0, 2, 0, ⟨#[118, 101, 114, 116, 105, 99, 97, 108, 45, 109, 101, 114, 103, 101]⟩⟩,
  ⟨62, 5, 0, 31680, 0, ⟨#[99, 101, 108, 108, 45, 119, 105, 100, 116, 104]⟩⟩,
  ⟨63, 5, 0, 16777215, 16777215, ⟨#[115, 104, 97, 100, 101]⟩⟩,
  ⟨70, 6, 0, 31680, 0, ⟨#[116, 97, 98, 108, 101, 45, 119, 105, 100, 116, 104]⟩⟩,
  ⟨71, 6, 0, 2, 0, ⟨#[116, 97, 98, 108, 101, 45, 97, 108, 105, 103, 110]⟩⟩]
theorem tableK_len : tableK.length = 45 := rfl
theorem tableK_inc : Inc (keysK tableK) := by unfold Inc keysK tableK; simp only [List.map_cons, List.map_nil]; decide
set_option maxRecDepth 100000 in
theorem tableP_spec  : Fun Tryd.prog 59 [] (.sl 6 (encK tableK)) := by
  refine Fun.enter (n := 47) (rs := [.tmp 0]) Tryd.func59 rfl Tryd.ntmps59 Tryd.results59 rfl (fun w F => ?_)
  refine TC.seq ?_
  refine TC.region ?_
  refine TL.run1 (pure_assign rfl) rfl ?_
  refine TL.nil' ?_
  refine TC.seq ?_
  refine TC.region ?_
  refine TL.run1 (pure_build Ty.pl76 Ty.zero76 (.cons rfl rfl (.one rfl) rfl (.here (.nil _)) (.cons rfl rfl (.one rfl) rfl (.skip (.here (.nil _))) (.cons rfl rfl (.one rfl) rfl (.skip (.skip (.here (.nil _)))) (.cons rfl rfl (.one rfl) rfl (.skip (.skip (.skip (.here (.nil _))))) (.cons rfl rfl (.one rfl) rfl (.skip (.skip (.skip (.skip (.here (.nil _)))))) (.cons rfl rfl (.one rfl) rfl (.skip (.skip (.skip (.skip (.skip (.here (.nil _))))))) (.nil _)))))))) rfl ?_
  refine TL.run1 (pure_build Ty.pl76 Ty.zero76 (.cons rfl rfl (.one rfl) rfl (.here (.nil _)) (.cons rfl rfl (.one rfl) rfl (.skip (.here (.nil _))) (.cons rfl rfl (.one rfl) rfl (.skip (.skip (.here (.nil _)))) (.cons rfl rfl (.one rfl) rfl (.skip (.skip (.skip (.here (.nil _))))) (.cons rfl rfl (.one rfl) rfl (.skip (.skip (.skip (.skip (.here (.nil _)))))) (.cons rfl rfl (.one rfl) rfl (.skip (.skip (.skip (.skip (.skip (.here (.nil _))))))) (.nil _)))))))) rfl ?_
  refine TL.run1 (pure_build Ty.pl76 Ty.zero76 (.cons rfl rfl (.one rfl) rfl (.here (.nil _)) (.cons rfl rfl (.one rfl) rfl (.skip (.here (.nil _))) (.cons rfl rfl (.one rfl) rfl (.skip (.skip (.here (.nil _)))) (.cons rfl rfl (.one rfl) rfl (.skip (.skip (.skip (.here (.nil _))))) (.cons rfl rfl (.one rfl) rfl (.skip (.skip (.skip (.skip (.here (.nil _)))))) (.cons rfl rfl (.one rfl) rfl (.skip (.skip (.skip (.skip (.skip (.here (.nil _))))))) (.nil _)))))))) rfl ?_
  refine TL.run1 (pure_build Ty.pl76 Ty.zero76 (.cons rfl rfl (.one rfl) rfl (.here (.nil _)) (.cons rfl rfl (.one rfl) rfl (.skip (.here (.nil _))) (.cons rfl rfl (.one rfl) rfl (.skip (.skip (.here (.nil _)))) (.cons rfl rfl (.one rfl) rfl (.skip (.skip (.skip (.here (.nil _))))) (.cons rfl rfl (.one rfl) rfl (.skip (.skip (.skip (.skip (.here (.nil _)))))) (.cons rfl rfl (.one rfl) rfl (.skip (.skip (.skip (.skip (.skip (.here (.nil _))))))) (.nil _)))))))) rfl ?_
  refine TL.run1 (pure_build Ty.pl76 Ty.zero76 (.cons rfl rfl (.one rfl) rfl (.here (.nil _)) (.cons rfl rfl (.one rfl) rfl (.skip (.here (.nil _))) (.cons rfl rfl (.one rfl) rfl (.skip (.skip (.here (.nil _)))) (.cons rfl rfl (.one rfl) rfl (.skip (.skip (.skip (.here (.nil _))))) (.cons rfl rfl (.one rfl) rfl (.skip (.skip (.skip (.skip (.here (.nil _)))))) (.cons rfl rfl (.one rfl) rfl (.skip (.skip (.skip (.skip (.skip (.here (.nil _))))))) (.nil _)))))))) rfl ?_
  refine TL.run1 (pure_build Ty.pl76 Ty.zero76 (.cons rfl rfl (.one rfl) rfl (.here (.nil _)) (.cons rfl rfl (.one rfl) rfl (.skip (.here (.nil _))) (.cons rfl rfl (.one rfl) rfl (.skip (.skip (.here (.nil _)))) (.cons rfl rfl (.one rfl) rfl (.skip (.skip (.skip (.here (.nil _))))) (.cons rfl rfl (.one rfl) rfl (.skip (.skip (.skip (.skip (.here (.nil _)))))) (.cons rfl rfl (.one rfl) rfl (.skip (.skip (.skip (.skip (.skip (.here (.nil _))))))) (.nil _)))))))) rfl ?_
  refine TL.run1 (pure_build Ty.pl76 Ty.zero76 (.cons rfl rfl (.one rfl) rfl (.here (.nil _)) (.cons rfl rfl (.one rfl) rfl (.skip (.here (.nil _))) (.cons rfl rfl (.one rfl) rfl (.skip (.skip (.here (.nil _)))) (.cons rfl rfl (.one rfl) rfl (.skip (.skip (.skip (.here (.nil _))))) (.cons rfl rfl (.one rfl) rfl (.skip (.skip (.skip (.skip (.here (.nil _)))))) (.cons rfl rfl (.one rfl) rfl (.skip (.skip (.skip (.skip (.skip (.here (.nil _))))))) (.nil _)))))))) rfl ?_
  refine TL.run1 (pure_build Ty.pl76 Ty.zero76 (.cons rfl rfl (.one rfl) rfl (.here (.nil _)) (.cons rfl rfl (.one rfl) rfl (.skip (.here (.nil _))) (.cons rfl rfl (.one rfl) rfl (.skip (.skip (.here (.nil _)))) (.cons rfl rfl (.one rfl) rfl (.skip (.skip (.skip (.here (.nil _))))) (.cons rfl rfl (.one rfl) rfl (.skip (.skip (.skip (.skip (.here (.nil _)))))) (.cons rfl rfl (.one rfl) rfl (.skip (.skip (.skip (.skip (.skip (.here (.nil _))))))) (.nil _)))))))) rfl ?_
  refine TL.run1 (pure_build Ty.pl76 Ty.zero76 (.cons rfl rfl (.one rfl) rfl (.here (.nil _)) (.cons rfl rfl (.one rfl) rfl (.skip (.here (.nil _))) (.cons rfl rfl (.one rfl) rfl (.skip (.skip (.here (.nil _)))) (.cons rfl rfl (.one rfl) rfl (.skip (.skip (.skip (.here (.nil _))))) (.cons rfl rfl (.one rfl) rfl (.skip (.skip (.skip (.skip (.here (.nil _)))))) (.cons rfl rfl (.one rfl) rfl (.skip (.skip (.skip (.skip (.skip (.here (.nil _))))))) (.nil _)))))))) rfl ?_
  refine TL.run1 (pure_build Ty.pl76 Ty.zero76 (.cons rfl rfl (.one rfl) rfl (.here (.nil _)) (.cons rfl rfl (.one rfl) rfl (.skip (.here (.nil _))) (.cons rfl rfl (.one rfl) rfl (.skip (.skip (.here (.nil _)))) (.cons rfl rfl (.one rfl) rfl (.skip (.skip (.skip (.here (.nil _))))) (.cons rfl rfl (.one rfl) rfl (.skip (.skip (.skip (.skip (.here (.nil _)))))) (.cons rfl rfl (.one rfl) rfl (.skip (.skip (.skip (.skip (.skip (.here (.nil _))))))) (.nil _)))))))) rfl ?_
  refine TL.run1 (pure_build Ty.pl76 Ty.zero76 (.cons rfl rfl (.one rfl) rfl (.here (.nil _)) (.cons rfl rfl (.one rfl) rfl (.skip (.here (.nil _))) (.cons rfl rfl (.one rfl) rfl (.skip (.skip (.here (.nil _)))) (.cons rfl rfl (.one rfl) rfl (.skip (.skip (.skip (.here (.nil _))))) (.cons rfl rfl (.one rfl) rfl (.skip (.skip (.skip (.skip (.here (.nil _)))))) (.cons rfl rfl (.one rfl) rfl (.skip (.skip (.skip (.skip (.skip (.here (.nil _))))))) (.nil _)))))))) rfl ?_
  refine TL.run1 (pure_build Ty.pl76 Ty.zero76 (.cons rfl rfl (.one rfl) rfl (.here (.nil _)) (.cons rfl rfl (.one rfl) rfl (.skip (.here (.nil _))) (.cons rfl rfl (.one rfl) rfl (.skip (.skip (.here (.nil _)))) (.cons rfl rfl (.one rfl) rfl (.skip (.skip (.skip (.here (.nil _))))) (.cons rfl rfl (.one rfl) rfl (.skip (.skip (.skip (.skip (.here (.nil _)))))) (.cons rfl rfl (.one rfl) rfl (.skip (.skip (.skip (.skip (.skip (.here (.nil _))))))) (.nil _)))))))) rfl ?_
  refine TL.run1 (pure_build Ty.pl76 Ty.zero76 (.cons rfl rfl (.one rfl) rfl (.here (.nil _)) (.cons rfl rfl (.one rfl) rfl (.skip (.here (.nil _))) (.cons rfl rfl (.one rfl) rfl (.skip (.skip (.here (.nil _)))) (.cons rfl rfl (.one rfl) rfl (.skip (.skip (.skip (.here (.nil _))))) (.cons rfl rfl (.one rfl) rfl (.skip (.skip (.skip (.skip (.here (.nil _)))))) (.cons rfl rfl (.one rfl) rfl (.skip (.skip (.skip (.skip (.skip (.here (.nil _))))))) (.nil _)))))))) rfl ?_
  refine TL.run1 (pure_build Ty.pl76 Ty.zero76 (.cons rfl rfl (.one rfl) rfl (.here (.nil _)) (.cons rfl rfl (.one rfl) rfl (.skip (.here (.nil _))) (.cons rfl rfl (.one rfl) rfl (.skip (.skip (.here (.nil _)))) (.cons rfl rfl (.one rfl) rfl (.skip (.skip (.skip (.here (.nil _))))) (.cons rfl rfl (.one rfl) rfl (.skip (.skip (.skip (.skip (.here (.nil _)))))) (.cons rfl rfl (.one rfl) rfl (.skip (.skip (.skip (.skip (.skip (.here (.nil _))))))) (.nil _)))))))) rfl ?_
  refine TL.run1 (pure_build Ty.pl76 Ty.zero76 (.cons rfl rfl (.one rfl) rfl (.here (.nil _)) (.cons rfl rfl (.one rfl) rfl (.skip (.here (.nil _))) (.cons rfl rfl (.one rfl) rfl (.skip (.skip (.here (.nil _)))) (.cons rfl rfl (.one rfl) rfl (.skip (.skip (.skip (.here (.nil _))))) (.cons rfl rfl (.one rfl) rfl (.skip (.skip (.skip (.skip (.here (.nil _)))))) (.cons rfl rfl (.one rfl) rfl (.skip (.skip (.skip (.skip (.skip (.here (.nil _))))))) (.nil _)))))))) rfl ?_
  refine TL.run1 (pure_build Ty.pl76 Ty.zero76 (.cons rfl rfl (.one rfl) rfl (.here (.nil _)) (.cons rfl rfl (.one rfl) rfl (.skip (.here (.nil _))) (.cons rfl rfl (.one rfl) rfl (.skip (.skip (.here (.nil _)))) (.cons rfl rfl (.one rfl) rfl (.skip (.skip (.skip (.here (.nil _))))) (.cons rfl rfl (.one rfl) rfl (.skip (.skip (.skip (.skip (.here (.nil _)))))) (.cons rfl rfl (.one rfl) rfl (.skip (.skip (.skip (.skip (.skip (.here (.nil _))))))) (.nil _)))))))) rfl ?_
  refine TL.run1 (pure_build Ty.pl76 Ty.zero76 (.cons rfl rfl (.one rfl) rfl (.here (.nil _)) (.cons rfl rfl (.one rfl) rfl (.skip (.here (.nil _))) (.cons rfl rfl (.one rfl) rfl (.skip (.skip (.here (.nil _)))) (.cons rfl rfl (.one rfl) rfl (.skip (.skip (.skip (.here (.nil _))))) (.cons rfl rfl (.one rfl) rfl (.skip (.skip (.skip (.skip (.here (.nil _)))))) (.cons rfl rfl (.one rfl) rfl (.skip (.skip (.skip (.skip (.skip (.here (.nil _))))))) (.nil _)))))))) rfl ?_
  refine TL.run1 (pure_build Ty.pl76 Ty.zero76 (.cons rfl rfl (.one rfl) rfl (.here (.nil _)) (.cons rfl rfl (.one rfl) rfl (.skip (.here (.nil _))) (.cons rfl rfl (.one rfl) rfl (.skip (.skip (.here (.nil _)))) (.cons rfl rfl (.one rfl) rfl (.skip (.skip (.skip (.here (.nil _))))) (.cons rfl rfl (.one rfl) rfl (.skip (.skip (.skip (.skip (.here (.nil _)))))) (.cons rfl rfl (.one rfl) rfl (.skip (.skip (.skip (.skip (.skip (.here (.nil _))))))) (.nil _)))))))) rfl ?_
  refine TL.run1 (pure_build Ty.pl76 Ty.zero76 (.cons rfl rfl (.one rfl) rfl (.here (.nil _)) (.cons rfl rfl (.one rfl) rfl (.skip (.here (.nil _))) (.cons rfl rfl (.one rfl) rfl (.skip (.skip (.here (.nil _)))) (.cons rfl rfl (.one rfl) rfl (.skip (.skip (.skip (.here (.nil _))))) (.cons rfl rfl (.one rfl) rfl (.skip (.skip (.skip (.skip (.here (.nil _)))))) (.cons rfl rfl (.one rfl) rfl (.skip (.skip (.skip (.skip (.skip (.here (.nil _))))))) (.nil _)))))))) rfl ?_
  refine TL.run1 (pure_build Ty.pl76 Ty.zero76 (.cons rfl rfl (.one rfl) rfl (.here (.nil _)) (.cons rfl rfl (.one rfl) rfl (.skip (.here (.nil _))) (.cons rfl rfl (.one rfl) rfl (.skip (.skip (.here (.nil _)))) (.cons rfl rfl (.one rfl) rfl (.skip (.skip (.skip (.here (.nil _))))) (.cons rfl rfl (.one rfl) rfl (.skip (.skip (.skip (.skip (.here (.nil _)))))) (.cons rfl rfl (.one rfl) rfl (.skip (.skip (.skip (.skip (.skip (.here (.nil _))))))) (.nil _)))))))) rfl ?_
  refine TL.run1 (pure_build Ty.pl76 Ty.zero76 (.cons rfl rfl (.one rfl) rfl (.here (.nil _)) (.cons rfl rfl (.one rfl) rfl (.skip (.here (.nil _))) (.cons rfl rfl (.one rfl) rfl (.skip (.skip (.here (.nil _)))) (.cons rfl rfl (.one rfl) rfl (.skip (.skip (.skip (.here (.nil _))))) (.cons rfl rfl (.one rfl) rfl (.skip (.skip (.skip (.skip (.here (.nil _)))))) (.cons rfl rfl (.one rfl) rfl (.skip (.skip (.skip (.skip (.skip (.here (.nil _))))))) (.nil _)))))))) rfl ?_
  refine TL.run1 (pure_build Ty.pl76 Ty.zero76 (.cons rfl rfl (.one rfl) rfl (.here (.nil _)) (.cons rfl rfl (.one rfl) rfl (.skip (.here (.nil _))) (.cons rfl rfl (.one rfl) rfl (.skip (.skip (.here (.nil _)))) (.cons rfl rfl (.one rfl) rfl (.skip (.skip (.skip (.here (.nil _))))) (.cons rfl rfl (.one rfl) rfl (.skip (.skip (.skip (.skip (.here (.nil _)))))) (.cons rfl rfl (.one rfl) rfl (.skip (.skip (.skip (.skip (.skip (.here (.nil _))))))) (.nil _)))))))) rfl ?_
  refine TL.run1 (pure_build Ty.pl76 Ty.zero76 (.cons rfl rfl (.one rfl) rfl (.here (.nil _)) (.cons rfl rfl (.one rfl) rfl (.skip (.here (.nil _))) (.cons rfl rfl (.one rfl) rfl (.skip (.skip (.here (.nil _)))) (.cons rfl rfl (.one rfl) rfl (.skip (.skip (.skip (.here (.nil _))))) (.cons rfl rfl (.one rfl) rfl (.skip (.skip (.skip (.skip (.here (.nil _)))))) (.cons rfl rfl (.one rfl) rfl (.skip (.skip (.skip (.skip (.skip (.here (.nil _))))))) (.nil _)))))))) rfl ?_
  refine TL.run1 (pure_build Ty.pl76 Ty.zero76 (.cons rfl rfl (.one rfl) rfl (.here (.nil _)) (.cons rfl rfl (.one rfl) rfl (.skip (.here (.nil _))) (.cons rfl rfl (.one rfl) rfl (.skip (.skip (.here (.nil _)))) (.cons rfl rfl (.one rfl) rfl (.skip (.skip (.skip (.here (.nil _))))) (.cons rfl rfl (.one rfl) rfl (.skip (.skip (.skip (.skip (.here (.nil _)))))) (.cons rfl rfl (.one rfl) rfl (.skip (.skip (.skip (.skip (.skip (.here (.nil _))))))) (.nil _)))))))) rfl ?_
  refine TL.run1 (pure_build Ty.pl76 Ty.zero76 (.cons rfl rfl (.one rfl) rfl (.here (.nil _)) (.cons rfl rfl (.one rfl) rfl (.skip (.here (.nil _))) (.cons rfl rfl (.one rfl) rfl (.skip (.skip (.here (.nil _)))) (.cons rfl rfl (.one rfl) rfl (.skip (.skip (.skip (.here (.nil _))))) (.cons rfl rfl (.one rfl) rfl (.skip (.skip (.skip (.skip (.here (.nil _)))))) (.cons rfl rfl (.one rfl) rfl (.skip (.skip (.skip (.skip (.skip (.here (.nil _))))))) (.nil _)))))))) rfl ?_
  refine TL.run1 (pure_build Ty.pl76 Ty.zero76 (.cons rfl rfl (.one rfl) rfl (.here (.nil _)) (.cons rfl rfl (.one rfl) rfl (.skip (.here (.nil _))) (.cons rfl rfl (.one rfl) rfl (.skip (.skip (.here (.nil _)))) (.cons rfl rfl (.one rfl) rfl (.skip (.skip (.skip (.here (.nil _))))) (.cons rfl rfl (.one rfl) rfl (.skip (.skip (.skip (.skip (.here (.nil _)))))) (.cons rfl rfl (.one rfl) rfl (.skip (.skip (.skip (.skip (.skip (.here (.nil _))))))) (.nil _)))))))) rfl ?_
  refine TL.run1 (pure_build Ty.pl76 Ty.zero76 (.cons rfl rfl (.one rfl) rfl (.here (.nil _)) (.cons rfl rfl (.one rfl) rfl (.skip (.here (.nil _))) (.cons rfl rfl (.one rfl) rfl (.skip (.skip (.here (.nil _)))) (.cons rfl rfl (.one rfl) rfl (.skip (.skip (.skip (.here (.nil _))))) (.cons rfl rfl (.one rfl) rfl (.skip (.skip (.skip (.skip (.here (.nil _)))))) (.cons rfl rfl (.one rfl) rfl (.skip (.skip (.skip (.skip (.skip (.here (.nil _))))))) (.nil _)))))))) rfl ?_
  refine TL.run1 (pure_build Ty.pl76 Ty.zero76 (.cons rfl rfl (.one rfl) rfl (.here (.nil _)) (.cons rfl rfl (.one rfl) rfl (.skip (.here (.nil _))) (.cons rfl rfl (.one rfl) rfl (.skip (.skip (.here (.nil _)))) (.cons rfl rfl (.one rfl) rfl (.skip (.skip (.skip (.here (.nil _))))) (.cons rfl rfl (.one rfl) rfl (.skip (.skip (.skip (.skip (.here (.nil _)))))) (.cons rfl rfl (.one rfl) rfl (.skip (.skip (.skip (.skip (.skip (.here (.nil _))))))) (.nil _)))))))) rfl ?_
  refine TL.run1 (pure_build Ty.pl76 Ty.zero76 (.cons rfl rfl (.one rfl) rfl (.here (.nil _)) (.cons rfl rfl (.one rfl) rfl (.skip (.here (.nil _))) (.cons rfl rfl (.one rfl) rfl (.skip (.skip (.here (.nil _)))) (.cons rfl rfl (.one rfl) rfl (.skip (.skip (.skip (.here (.nil _))))) (.cons rfl rfl (.one rfl) rfl (.skip (.skip (.skip (.skip (.here (.nil _)))))) (.cons rfl rfl (.one rfl) rfl (.skip (.skip (.skip (.skip (.skip (.here (.nil _))))))) (.nil _)))))))) rfl ?_
  refine TL.run1 (pure_build Ty.pl76 Ty.zero76 (.cons rfl rfl (.one rfl) rfl (.here (.nil _)) (.cons rfl rfl (.one rfl) rfl (.skip (.here (.nil _))) (.cons rfl rfl (.one rfl) rfl (.skip (.skip (.here (.nil _)))) (.cons rfl rfl (.one rfl) rfl (.skip (.skip (.skip (.here (.nil _))))) (.cons rfl rfl (.one rfl) rfl (.skip (.skip (.skip (.skip (.here (.nil _)))))) (.cons rfl rfl (.one rfl) rfl (.skip (.skip (.skip (.skip (.skip (.here (.nil _))))))) (.nil _)))))))) rfl ?_
  refine TL.run1 (pure_build Ty.pl76 Ty.zero76 (.cons rfl rfl (.one rfl) rfl (.here (.nil _)) (.cons rfl rfl (.one rfl) rfl (.skip (.here (.nil _))) (.cons rfl rfl (.one rfl) rfl (.skip (.skip (.here (.nil _)))) (.cons rfl rfl (.one rfl) rfl (.skip (.skip (.skip (.here (.nil _))))) (.cons rfl rfl (.one rfl) rfl (.skip (.skip (.skip (.skip (.here (.nil _)))))) (.cons rfl rfl (.one rfl) rfl (.skip (.skip (.skip (.skip (.skip (.here (.nil _))))))) (.nil _)))))))) rfl ?_
  refine TL.run1 (pure_build Ty.pl76 Ty.zero76 (.cons rfl rfl (.one rfl) rfl (.here (.nil _)) (.cons rfl rfl (.one rfl) rfl (.skip (.here (.nil _))) (.cons rfl rfl (.one rfl) rfl (.skip (.skip (.here (.nil _)))) (.cons rfl rfl (.one rfl) rfl (.skip (.skip (.skip (.here (.nil _))))) (.cons rfl rfl (.one rfl) rfl (.skip (.skip (.skip (.skip (.here (.nil _)))))) (.cons rfl rfl (.one rfl) rfl (.skip (.skip (.skip (.skip (.skip (.here (.nil _))))))) (.nil _)))))))) rfl ?_
  refine TL.run1 (pure_build Ty.pl76 Ty.zero76 (.cons rfl rfl (.one rfl) rfl (.here (.nil _)) (.cons rfl rfl (.one rfl) rfl (.skip (.here (.nil _))) (.cons rfl rfl (.one rfl) rfl (.skip (.skip (.here (.nil _)))) (.cons rfl rfl (.one rfl) rfl (.skip (.skip (.skip (.here (.nil _))))) (.cons rfl rfl (.one rfl) rfl (.skip (.skip (.skip (.skip (.here (.nil _)))))) (.cons rfl rfl (.one rfl) rfl (.skip (.skip (.skip (.skip (.skip (.here (.nil _))))))) (.nil _)))))))) rfl ?_
  refine TL.run1 (pure_build Ty.pl76 Ty.zero76 (.cons rfl rfl (.one rfl) rfl (.here (.nil _)) (.cons rfl rfl (.one rfl) rfl (.skip (.here (.nil _))) (.cons rfl rfl (.one rfl) rfl (.skip (.skip (.here (.nil _)))) (.cons rfl rfl (.one rfl) rfl (.skip (.skip (.skip (.here (.nil _))))) (.cons rfl rfl (.one rfl) rfl (.skip (.skip (.skip (.skip (.here (.nil _)))))) (.cons rfl rfl (.one rfl) rfl (.skip (.skip (.skip (.skip (.skip (.here (.nil _))))))) (.nil _)))))))) rfl ?_
  refine TL.run1 (pure_build Ty.pl76 Ty.zero76 (.cons rfl rfl (.one rfl) rfl (.here (.nil _)) (.cons rfl rfl (.one rfl) rfl (.skip (.here (.nil _))) (.cons rfl rfl (.one rfl) rfl (.skip (.skip (.here (.nil _)))) (.cons rfl rfl (.one rfl) rfl (.skip (.skip (.skip (.here (.nil _))))) (.cons rfl rfl (.one rfl) rfl (.skip (.skip (.skip (.skip (.here (.nil _)))))) (.cons rfl rfl (.one rfl) rfl (.skip (.skip (.skip (.skip (.skip (.here (.nil _))))))) (.nil _)))))))) rfl ?_
  refine TL.run1 (pure_build Ty.pl76 Ty.zero76 (.cons rfl rfl (.one rfl) rfl (.here (.nil _)) (.cons rfl rfl (.one rfl) rfl (.skip (.here (.nil _))) (.cons rfl rfl (.one rfl) rfl (.skip (.skip (.here (.nil _)))) (.cons rfl rfl (.one rfl) rfl (.skip (.skip (.skip (.here (.nil _))))) (.cons rfl rfl (.one rfl) rfl (.skip (.skip (.skip (.skip (.here (.nil _)))))) (.cons rfl rfl (.one rfl) rfl (.skip (.skip (.skip (.skip (.skip (.here (.nil _))))))) (.nil _)))))))) rfl ?_
  refine TL.run1 (pure_build Ty.pl76 Ty.zero76 (.cons rfl rfl (.one rfl) rfl (.here (.nil _)) (.cons rfl rfl (.one rfl) rfl (.skip (.here (.nil _))) (.cons rfl rfl (.one rfl) rfl (.skip (.skip (.here (.nil _)))) (.cons rfl rfl (.one rfl) rfl (.skip (.skip (.skip (.here (.nil _))))) (.cons rfl rfl (.one rfl) rfl (.skip (.skip (.skip (.skip (.here (.nil _)))))) (.cons rfl rfl (.one rfl) rfl (.skip (.skip (.skip (.skip (.skip (.here (.nil _))))))) (.nil _)))))))) rfl ?_
  refine TL.run1 (pure_build Ty.pl76 Ty.zero76 (.cons rfl rfl (.one rfl) rfl (.here (.nil _)) (.cons rfl rfl (.one rfl) rfl (.skip (.here (.nil _))) (.cons rfl rfl (.one rfl) rfl (.skip (.skip (.here (.nil _)))) (.cons rfl rfl (.one rfl) rfl (.skip (.skip (.skip (.here (.nil _))))) (.cons rfl rfl (.one rfl) rfl (.skip (.skip (.skip (.skip (.here (.nil _)))))) (.cons rfl rfl (.one rfl) rfl (.skip (.skip (.skip (.skip (.skip (.here (.nil _))))))) (.nil _)))))))) rfl ?_
  refine TL.run1 (pure_build Ty.pl76 Ty.zero76 (.cons rfl rfl (.one rfl) rfl (.here (.nil _)) (.cons rfl rfl (.one rfl) rfl (.skip (.here (.nil _))) (.cons rfl rfl (.one rfl) rfl (.skip (.skip (.here (.nil _)))) (.cons rfl rfl (.one rfl) rfl (.skip (.skip (.skip (.here (.nil _))))) (.cons rfl rfl (.one rfl) rfl (.skip (.skip (.skip (.skip (.here (.nil _)))))) (.cons rfl rfl (.one rfl) rfl (.skip (.skip (.skip (.skip (.skip (.here (.nil _))))))) (.nil _)))))))) rfl ?_
  refine TL.run1 (pure_build Ty.pl76 Ty.zero76 (.cons rfl rfl (.one rfl) rfl (.here (.nil _)) (.cons rfl rfl (.one rfl) rfl (.skip (.here (.nil _))) (.cons rfl rfl (.one rfl) rfl (.skip (.skip (.here (.nil _)))) (.cons rfl rfl (.one rfl) rfl (.skip (.skip (.skip (.here (.nil _))))) (.cons rfl rfl (.one rfl) rfl (.skip (.skip (.skip (.skip (.here (.nil _)))))) (.cons rfl rfl (.one rfl) rfl (.skip (.skip (.skip (.skip (.skip (.here (.nil _))))))) (.nil _)))))))) rfl ?_
  refine TL.run1 (pure_build Ty.pl76 Ty.zero76 (.cons rfl rfl (.one rfl) rfl (.here (.nil _)) (.cons rfl rfl (.one rfl) rfl (.skip (.here (.nil _))) (.cons rfl rfl (.one rfl) rfl (.skip (.skip (.here (.nil _)))) (.cons rfl rfl (.one rfl) rfl (.skip (.skip (.skip (.here (.nil _))))) (.cons rfl rfl (.one rfl) rfl (.skip (.skip (.skip (.skip (.here (.nil _)))))) (.cons rfl rfl (.one rfl) rfl (.skip (.skip (.skip (.skip (.skip (.here (.nil _))))))) (.nil _)))))))) rfl ?_
  refine TL.run1 (pure_build Ty.pl76 Ty.zero76 (.cons rfl rfl (.one rfl) rfl (.here (.nil _)) (.cons rfl rfl (.one rfl) rfl (.skip (.here (.nil _))) (.cons rfl rfl (.one rfl) rfl (.skip (.skip (.here (.nil _)))) (.cons rfl rfl (.one rfl) rfl (.skip (.skip (.skip (.here (.nil _))))) (.cons rfl rfl (.one rfl) rfl (.skip (.skip (.skip (.skip (.here (.nil _)))))) (.cons rfl rfl (.one rfl) rfl (.skip (.skip (.skip (.skip (.skip (.here (.nil _))))))) (.nil _)))))))) rfl ?_
  refine TL.run1 (pure_build Ty.pl76 Ty.zero76 (.cons rfl rfl (.one rfl) rfl (.here (.nil _)) (.cons rfl rfl (.one rfl) rfl (.skip (.here (.nil _))) (.cons rfl rfl (.one rfl) rfl (.skip (.skip (.here (.nil _)))) (.cons rfl rfl (.one rfl) rfl (.skip (.skip (.skip (.here (.nil _))))) (.cons rfl rfl (.one rfl) rfl (.skip (.skip (.skip (.skip (.here (.nil _)))))) (.cons rfl rfl (.one rfl) rfl (.skip (.skip (.skip (.skip (.skip (.here (.nil _))))))) (.nil _)))))))) rfl ?_
  refine TL.run1 (pure_build Ty.pl76 Ty.zero76 (.cons rfl rfl (.one rfl) rfl (.here (.nil _)) (.cons rfl rfl (.one rfl) rfl (.skip (.here (.nil _))) (.cons rfl rfl (.one rfl) rfl (.skip (.skip (.here (.nil _)))) (.cons rfl rfl (.one rfl) rfl (.skip (.skip (.skip (.here (.nil _))))) (.cons rfl rfl (.one rfl) rfl (.skip (.skip (.skip (.skip (.here (.nil _)))))) (.cons rfl rfl (.one rfl) rfl (.skip (.skip (.skip (.skip (.skip (.here (.nil _))))))) (.nil _)))))))) rfl ?_
  refine TL.run1 (pure_build Ty.pl76 Ty.zero76 (.cons rfl rfl (.one rfl) rfl (.here (.nil _)) (.cons rfl rfl (.one rfl) rfl (.skip (.here (.nil _))) (.cons rfl rfl (.one rfl) rfl (.skip (.skip (.here (.nil _)))) (.cons rfl rfl (.one rfl) rfl (.skip (.skip (.skip (.here (.nil _))))) (.cons rfl rfl (.one rfl) rfl (.skip (.skip (.skip (.skip (.here (.nil _)))))) (.cons rfl rfl (.one rfl) rfl (.skip (.skip (.skip (.skip (.skip (.here (.nil _))))))) (.nil _)))))))) rfl ?_
  refine TL.run1 (pure_buildSlice (xs := [.tmp 1, .tmp 2, .tmp 3, .tmp 4, .tmp 5, .tmp 6, .tmp 7, .tmp 8, .tmp 9, .tmp 10, .tmp 11, .tmp 12, .tmp 13, .tmp 14, .tmp 15, .tmp 16, .tmp 17, .tmp 18, .tmp 19, .tmp 20, .tmp 21, .tmp 22, .tmp 23, .tmp 24, .tmp 25, .tmp 26, .tmp 27, .tmp 28, .tmp 29, .tmp 30, .tmp 31, .tmp 32, .tmp 33, .tmp 34, .tmp 35, .tmp 36, .tmp 37, .tmp 38, .tmp 39, .tmp 40, .tmp 41, .tmp 42, .tmp 43, .tmp 44, .tmp 45]) Ty.app97 (by decide) rfl rfl (.cons rfl (.agg _) rfl (.cons rfl (.agg _) rfl (.cons rfl (.agg _) rfl (.cons rfl (.agg _) rfl (.cons rfl (.agg _) rfl (.cons rfl (.agg _) rfl (.cons rfl (.agg _) rfl (.cons rfl (.agg _) rfl (.cons rfl (.agg _) rfl (.cons rfl (.agg _) rfl (.cons rfl (.agg _) rfl (.cons rfl (.agg _) rfl (.cons rfl (.agg _) rfl (.cons rfl (.agg _) rfl (.cons rfl (.agg _) rfl (.cons rfl (.agg _) rfl (.cons rfl (.agg _) rfl (.cons rfl (.agg _) rfl (.cons rfl (.agg _) rfl (.cons rfl (.agg _) rfl (.cons rfl (.agg _) rfl (.cons rfl (.agg _) rfl (.cons rfl (.agg _) rfl (.cons rfl (.agg _) rfl (.cons rfl (.agg _) rfl (.cons rfl (.agg _) rfl (.cons rfl (.agg _) rfl (.cons rfl (.agg _) rfl (.cons rfl (.agg _) rfl (.cons rfl (.agg _) rfl (.cons rfl (.agg _) rfl (.cons rfl (.agg _) rfl (.cons rfl (.agg _) rfl (.cons rfl (.agg _) rfl (.cons rfl (.agg _) rfl (.cons rfl (.agg _) rfl (.cons rfl (.agg _) rfl (.cons rfl (.agg _) rfl (.cons rfl (.agg _) rfl (.cons rfl (.agg _) rfl (.cons rfl (.agg _) rfl (.cons rfl (.agg _) rfl (.cons rfl (.agg _) rfl (.cons rfl (.agg _) rfl (.cons rfl (.agg _) rfl .nil)))))))))))))))))))))))))))))))))))))))))))))) rfl ?_
  refine TL.run1 (pure_assign rfl) rfl ?_
  refine TL.nil' ?_
  refine TC.ret ?_
  exact ret_sl rfl rfl
set_option maxRecDepth 100000 in
theorem find1_spec (k : KeyE) (t : Int) : Fun Tryd.prog 61 [.agg (encK1 k), .v (.int .i64 t)] (.v (.int .i64 (cmpI k.num t))) := by
  refine Fun.enter (n := 9) (rs := [.tmp 4]) Tryd.func61 rfl Tryd.ntmps61 Tryd.results61 rfl (fun w F => ?_)
  refine TC.seq ?_
  refine TC.region ?_
  refine TL.box rfl (.agg _) rfl (fun g2 => ?_)
  refine TL.run1 (pure_assign rfl) rfl ?_
  refine TL.nil' ?_
  refine TC.seq ?_
  refine TC.region ?_
  first | refine TL.run1 (pure_fieldAddr Ty.f76_0 rfl (.zero _) (List.cons_ne_nil _ _)) rfl ?_ | refine TL.run1 (pure_fieldAddr_own Ty.f76_0 rfl) rfl ?_
  first | refine TL.run1 (pure_load1 Ty.one3 rfl) rfl ?_ | refine TL.run1 (pure_load1_own Ty.one3 rfl (by repeat (first | exact List.Mem.head _ | apply List.Mem.tail)) (by repeat (first | exact DropR.zero _ | apply DropR.succ))) rfl ?_
  refine TL.run1 (pure_move rfl) rfl ?_
  refine TL.run1 (pure_call (compare_spec _ _) (.cons rfl (.cons rfl .nil)) Tryd.call62) rfl ?_
  refine TL.run1 (pure_assign rfl) rfl ?_
  refine TL.nil' ?_
  refine TC.ret ?_
  exact ret_int rfl rfl
set_option maxRecDepth 100000 in
theorem bsK_spec (ks : List KeyE) (t : Int) (hinc : Inc (keysK ks)) (hl : ks.length ≤ 1000000) : Fun Tryd.prog 60 [.sl 6 (encK ks), .v (.int .i64 t), .fn 61 []] (.tup [.v (.int .i64 (lbI (keysK ks) t)), .v (.bool (inI (keysK ks) t))]) := by
  have hk1 := encK_len ks
  have hk2 := keysK_len ks
  refine Fun.enter (n := 49) (rs := [.tmp 6, .tmp 7]) Tryd.func60 rfl Tryd.ntmps60 Tryd.results60 rfl (fun w F => ?_)
  refine TC.seq ?_
  refine TC.region ?_
  refine TL.run1 (pure_assign rfl) rfl ?_
  refine TL.run1 (pure_assign rfl) rfl ?_
  refine TL.nil' ?_
  refine TC.seq ?_
  refine TC.region ?_
  refine TL.run1 (pure_move rfl) rfl ?_
  first | refine TL.run1 (pure_len Ty.sl97 rfl) rfl ?_ | refine TL.run1 (pure_len_row Ty.sl97 rfl (by repeat (first | exact List.Mem.head _ | apply List.Mem.tail))) rfl ?_ | refine TL.run1 (pure_len_nil Ty.sl97 rfl) rfl ?_
  refine TL.run1 (pure_assign rfl) rfl ?_
  refine TL.nil' ?_
  refine TC.seq ?_
  refine TC.region ?_
  refine TL.run1 (pure_move rfl) rfl ?_
  refine TL.run1 (pure_assign rfl) rfl ?_
  refine TL.run1 (pure_assign rfl) rfl ?_
  refine TL.nil' ?_
  refine TC.seq ?_
  refine TC.block ?_
  refine TC.loopX (X := Int × Int) (fun x => [(0, .sl 6 (encK ks)), (1, .v (.int .i64 t)), (2, .fn 61 []), (8, .v (.int .i64 (encK ks).length)), (9, .v (.int .i64 x.1)), (10, .v (.int .i64 x.2))]) (fun _ => []) (fun x => 0 ≤ x.1 ∧ x.1 ≤ x.2 ∧ x.2 ≤ (keysK ks).length ∧ (∀ j : Nat, j < x.1.toNat → kAt (keysK ks) j < t) ∧ (∀ j : Nat, x.2.toNat ≤ j → j < (keysK ks).length → t ≤ kAt (keysK ks) j)) (fun x => (x.2 - x.1).toNat) (0, (encK ks).length) ⟨by skip; repeat (first | exact Agree.nil | refine Agree.cons rfl ?_), by skip; repeat (first | exact List.nil_sublist _ | exact List.Sublist.refl _ | apply List.Sublist.cons_cons | apply List.Sublist.cons)⟩ ?_ ?_
  · skip
    exact ⟨by omega, by omega, by omega, fun j hj => by simp at hj, fun j h1 h2 => by simp at h1; omega⟩
  rintro ⟨i, j⟩ ⟨h0, h1, h2, h3, h4⟩
  dsimp only at h0 h1 h2 h3 h4
  refine TC.seq ?_
  refine TC.seq ?_
  refine TC.region ?_
  refine TL.run1 (pure_move rfl) rfl ?_
  refine TL.run1 (pure_move rfl) rfl ?_
  refine TL.run1 (pure_lss rfl rfl) rfl ?_
  refine TL.nil' ?_
  first | refine TC.condD rfl (fun hc17 => ?_) (fun hc17 => ?_) | refine TC.condN rfl (fun hc17 => ?_) (fun hc17 => ?_) | refine TC.cond rfl (fun hc17 => ?_) (fun hc17 => ?_)
  · try dsimp only at hc17
    refine TC.skip' ?_
    refine TC.block ?_
    refine TC.seq ?_
    refine TC.region ?_
    refine TL.run1 (pure_move rfl) rfl ?_
    refine TL.run1 (pure_move rfl) rfl ?_
    refine TL.run1 (pure_add rfl rfl (mkI64 (by omega) (by omega))) rfl ?_
    refine TL.run1 (pure_conv Tryd.underlying3 Tryd.underlying87 rfl (fit_u64 (by omega) (by omega))) rfl ?_
    refine TL.run1 (pure_shrl (m := 2) (by rfl) rfl rfl (by decide) (by decide)) rfl ?_
    refine TL.run1 (pure_conv Tryd.underlying87 Tryd.underlying3 rfl (fit_i64 (by omega) (by omega))) rfl ?_
    refine TL.run1 (pure_assign rfl) rfl ?_
    refine TL.nil' ?_
    refine TC.seq ?_
    have hb : 0 ≤ (i + j) / 2 ∧ (i + j) / 2 < j ∧ i ≤ (i + j) / 2 := by omega
    have hrow := encK_get ks ((i + j) / 2) (by omega) (by omega)
    have hka := kAt_keysK ks (((i + j) / 2)).toNat (by omega)
    rw [show (((((i + j) / 2)).toNat : Nat) : Int) = ((i + j) / 2) by omega] at hka
    refine TC.region ?_
    refine TL.run1 (pure_move rfl) rfl ?_
    refine TL.run1 (pure_move rfl) rfl ?_
    refine TL.run1 (pure_move rfl) rfl ?_
    refine TL.run1 (pure_indexAddr Ty.sl97 rfl rfl (by omega) (by assumption) (List.cons_ne_nil _ _)) rfl ?_
    first | refine TL.run1 (pure_load Ty.agg76 rfl (.succ (.succ (.succ (.succ (.succ (.succ (.zero _)))))))) rfl ?_ | refine TL.run1 (pure_load_own Ty.agg76 rfl (by repeat (first | exact List.Mem.head _ | apply List.Mem.tail)) (by repeat (first | exact DropR.zero _ | apply DropR.succ)) (.succ (.succ (.succ (.succ (.succ (.succ (.zero _)))))))) rfl ?_
    refine TL.run1 (pure_move rfl) rfl ?_
    refine TL.run1 (pure_callv rfl (find1_spec (eAt ks _) _) (.cons rfl (.cons rfl .nil)) Tryd.call61) rfl ?_
    refine TL.run1 (pure_lss rfl rfl) rfl ?_
    refine TL.nil' ?_
    first | refine TC.condD rfl (fun hc31 => ?_) (fun hc31 => ?_) | refine TC.condN rfl (fun hc31 => ?_) (fun hc31 => ?_) | refine TC.cond rfl (fun hc31 => ?_) (fun hc31 => ?_)
    · try dsimp only at hc31
      have hm : ((i + j) / 2).toNat < (keysK ks).length := by omega
      refine TC.region ?_
      refine TL.run1 (pure_move rfl) rfl ?_
      refine TL.run1 (pure_add rfl rfl (mkI64 (by omega) (by omega))) rfl ?_
      refine TL.run1 (pure_assign rfl) rfl ?_
      refine TL.nil ?_
      refine block_normal ?_
      first
        | (refine loop_next ((i + j) / 2 + 1, j) ⟨by repeat (first | exact Agree.nil | refine Agree.cons rfl ?_), by repeat (first | exact List.nil_sublist _ | exact List.Sublist.refl _ | apply List.Sublist.cons_cons | apply List.Sublist.cons)⟩ ⟨by omega, by omega, by omega, fun m hm1 => ?_, h4⟩ (by dsimp only; omega)
           have hq := (cmpI_neg _ _).1 hc31
           try rw [← hka] at hq
           rcases Nat.lt_or_ge m ((i + j) / 2).toNat with h | h
           · exact Int.lt_trans (hinc.lt h hm) hq
           · rw [show m = ((i + j) / 2).toNat by dsimp only at hm1; omega]; exact hq)
        | (refine loop_next (i, (i + j) / 2) ⟨by repeat (first | exact Agree.nil | refine Agree.cons rfl ?_), by repeat (first | exact List.nil_sublist _ | exact List.Sublist.refl _ | apply List.Sublist.cons_cons | apply List.Sublist.cons)⟩ ⟨by omega, by omega, by omega, h3, fun m hm1 hm2 => ?_⟩ (by dsimp only; omega)
           have hq : t ≤ kAt (keysK ks) ((i + j) / 2).toNat := by (have := mt (cmpI_neg _ _).2 hc31; (try rw [← hka] at this); omega)
           rcases Nat.eq_or_lt_of_le hm1 with h | h
           · rw [← h]; exact hq
           · exact Int.le_trans hq (Int.le_of_lt (hinc.lt h hm2)))
    · try dsimp only at hc31
      have hm : ((i + j) / 2).toNat < (keysK ks).length := by omega
      refine TC.region ?_
      refine TL.run1 (pure_move rfl) rfl ?_
      refine TL.run1 (pure_assign rfl) rfl ?_
      refine TL.nil ?_
      refine block_normal ?_
      first
        | (refine loop_next ((i + j) / 2 + 1, j) ⟨by repeat (first | exact Agree.nil | refine Agree.cons rfl ?_), by repeat (first | exact List.nil_sublist _ | exact List.Sublist.refl _ | apply List.Sublist.cons_cons | apply List.Sublist.cons)⟩ ⟨by omega, by omega, by omega, fun m hm1 => ?_, h4⟩ (by dsimp only; omega)
           have hq := (cmpI_neg _ _).1 hc31
           try rw [← hka] at hq
           rcases Nat.lt_or_ge m ((i + j) / 2).toNat with h | h
           · exact Int.lt_trans (hinc.lt h hm) hq
           · rw [show m = ((i + j) / 2).toNat by dsimp only at hm1; omega]; exact hq)
        | (refine loop_next (i, (i + j) / 2) ⟨by repeat (first | exact Agree.nil | refine Agree.cons rfl ?_), by repeat (first | exact List.nil_sublist _ | exact List.Sublist.refl _ | apply List.Sublist.cons_cons | apply List.Sublist.cons)⟩ ⟨by omega, by omega, by omega, h3, fun m hm1 hm2 => ?_⟩ (by dsimp only; omega)
           have hq : t ≤ kAt (keysK ks) ((i + j) / 2).toNat := by (have := mt (cmpI_neg _ _).2 hc31; (try rw [← hka] at this); omega)
           rcases Nat.eq_or_lt_of_le hm1 with h | h
           · rw [← h]; exact hq
           · exact Int.le_trans hq (Int.le_of_lt (hinc.lt h hm2)))
  · try dsimp only at hc17
    have hij : i = j := by omega
    subst hij
    have hlb : lbI (keysK ks) t = i.toNat := lbI_eq _ _ _ (by omega) h3 (fun hl => h4 _ (by omega) hl)
    refine TC.exit ?_
    refine then_exit ?_
    refine loop_exit ?_
    refine block_here ?_
    refine then_normal ?_
    refine TC.seq ?_
    refine TC.region ?_
    refine TL.run1 (pure_move rfl) rfl ?_
    refine TL.run1 (pure_move rfl) rfl ?_
    refine TL.run1 (pure_move rfl) rfl ?_
    refine TL.run1 (pure_lss rfl rfl) rfl ?_
    refine TL.run1 (pure_move rfl) rfl ?_
    first | refine TL.splitP 39 rfl (fun hg39 => ?_) (fun hg39 => ?_) | refine TL.split 39 rfl (fun hg39 => ?_) (fun hg39 => ?_)
    · try dsimp only at hg39
      have hrow := encK_get ks i (by omega) (by omega)
      have hka := kAt_keysK ks (i).toNat (by omega)
      rw [show (((i).toNat : Nat) : Int) = i by omega] at hka
      refine TL.runG rfl rfl (pure_move rfl) rfl ?_
      refine TL.runG rfl rfl (pure_move rfl) rfl ?_
      refine TL.runG rfl rfl (pure_move rfl) rfl ?_
      refine TL.runG rfl rfl (pure_indexAddr Ty.sl97 rfl rfl (by omega) (by assumption) (List.cons_ne_nil _ _)) rfl ?_
      first | refine TL.runG rfl rfl (pure_load Ty.agg76 rfl (.succ (.succ (.succ (.succ (.succ (.succ (.zero _)))))))) rfl ?_ | refine TL.runG rfl rfl (pure_load_own Ty.agg76 rfl (by repeat (first | exact List.Mem.head _ | apply List.Mem.tail)) (by repeat (first | exact DropR.zero _ | apply DropR.succ)) (.succ (.succ (.succ (.succ (.succ (.succ (.zero _)))))))) rfl ?_
      refine TL.runG rfl rfl (pure_move rfl) rfl ?_
      refine TL.runG rfl rfl (pure_callv rfl (find1_spec (eAt ks _) _) (.cons rfl (.cons rfl .nil)) Tryd.call61) rfl ?_
      refine TL.runG rfl rfl (pure_eql rfl rfl) rfl ?_
      refine TL.run1 (pure_pick_true rfl rfl) rfl ?_
      refine TL.run1 (pure_assign rfl) rfl ?_
      refine TL.run1 (pure_assign rfl) rfl ?_
      refine TL.nil' ?_
      refine TC.ret ?_
      refine ret2 (.inl rfl) rfl rfl ?_
      rw [hlb, show ((i.toNat : Nat) : Int) = i by omega]; unfold inI; rw [hlb]
      by_cases hx : i.toNat < (keysK ks).length
      · try rw [← hka]
        simp [cmpI_zero, hx]
        try (exfalso; omega)
      · simp [hx]
        try (exfalso; omega)
    · try dsimp only at hg39
      refine TL.passG rfl rfl rfl rfl ?_
      refine TL.passG rfl rfl rfl rfl ?_
      refine TL.passG rfl rfl rfl rfl ?_
      refine TL.passG rfl rfl rfl rfl ?_
      refine TL.passG rfl rfl rfl rfl ?_
      refine TL.passG rfl rfl rfl rfl ?_
      refine TL.passG rfl rfl rfl rfl ?_
      refine TL.passG rfl rfl rfl rfl ?_
      refine TL.run1 (pure_pick_false rfl rfl) rfl ?_
      refine TL.run1 (pure_assign rfl) rfl ?_
      refine TL.run1 (pure_assign rfl) rfl ?_
      refine TL.nil' ?_
      refine TC.ret ?_
      refine ret2 (.inl rfl) rfl rfl ?_
      rw [hlb, show ((i.toNat : Nat) : Int) = i by omega]; unfold inI; rw [hlb]
      by_cases hx : i.toNat < (keysK ks).length
      · try rw [← hka]
        simp [cmpI_zero, hx]
        try (exfalso; omega)
      · simp [hx]
        try (exfalso; omega)
/-- the entry of a key -/
def findK (t : Int) : KeyE := if inI (keysK tableK) t = true then eAt tableK (lbI (keysK tableK) t) else kE0
set_option maxRecDepth 100000 in
theorem findK_spec (t : Int) : Fun Tryd.prog 43 [.v (.int .i64 t)] (.tup [.agg (encK1 (findK t)), .v (.bool (inI (keysK tableK) t))]) := by
  refine Fun.enter (n := 21) (rs := [.cell 2 76, .tmp 3]) Tryd.func43 rfl Tryd.ntmps43 Tryd.results43 rfl (fun w F => ?_)
  refine TC.seq ?_
  refine TC.region ?_
  refine TL.alloc Ty.zero76 rfl (fun g2 => ?_)
  refine TL.run1 (pure_assign rfl) rfl ?_
  refine TL.nil' ?_
  refine TC.seq ?_
  refine TC.region ?_
  refine TL.run1 (pure_call (tableP_spec) .nil Tryd.call59) rfl ?_
  refine TL.run1 (pure_assign rfl) rfl ?_
  refine TL.nil' ?_
  refine TC.seq ?_
  refine TC.region ?_
  refine TL.run1 (pure_move rfl) rfl ?_
  refine TL.run1 (pure_move rfl) rfl ?_
  refine TL.run1 (pure_call (bsK_spec _ _ tableK_inc (by rw [tableK_len]; omega)) (.cons rfl (.cons rfl (.cons rfl .nil))) Tryd.call60) rfl ?_
  refine TL.run1 (pure_move rfl) rfl ?_
  refine TL.run1 (pure_extract rfl rfl) rfl ?_
  refine TL.run1 (pure_extract rfl rfl) rfl ?_
  refine TL.run1 (pure_assign rfl) rfl ?_
  refine TL.run1 (pure_assign rfl) rfl ?_
  refine TL.nil' ?_
  refine TC.seq ?_
  refine TC.seq ?_
  refine TC.region ?_
  refine TL.run1 (pure_move rfl) rfl ?_
  refine TL.run1 (pure_not rfl) rfl ?_
  refine TL.nil' ?_
  first | refine TC.condD rfl (fun hc15 => ?_) (fun hc15 => ?_) | refine TC.condN rfl (fun hc15 => ?_) (fun hc15 => ?_) | refine TC.cond rfl (fun hc15 => ?_) (fun hc15 => ?_)
  · try dsimp only at hc15
    have hin : inI (keysK tableK) t = false := decide_eq_false hc15
    refine TC.seq ?_
    refine TC.region ?_
    refine TL.run1 (pure_build Ty.pl76 Ty.zero76 (.nil _)) rfl ?_
    refine TL.store rfl rfl (.agg _) Tryd.sizeOf76 rfl (by repeat (first | exact UpdR.here _ | apply UpdR.there)) (by repeat (first | exact PutR.nil _ | apply PutR.here | apply PutR.skip)) ?_
    refine TL.run1 (pure_assign rfl) rfl ?_
    refine TL.nil' ?_
    refine TC.ret ?_
    refine then_ret ?_
    exact ret_cell_tmp (.inl rfl) Ty.agg76 rfl (.head _) rfl rfl (by rw [findK, hin]; rfl)
  · try dsimp only at hc15
    have hin : inI (keysK tableK) t = true := decide_eq_true hc15
    have hlt : lbI (keysK tableK) t < tableK.length := by have := hc15; rw [keysK_len] at this; exact this.1
    have hrow := encK_get tableK (lbI (keysK tableK) t) (by omega) (by omega)
    refine TC.skip' ?_
    refine TC.seq ?_
    refine TC.region ?_
    refine TL.run1 (pure_move rfl) rfl ?_
    refine TL.run1 (pure_move rfl) rfl ?_
    refine TL.run1 (pure_indexAddr Ty.sl97 rfl rfl (by omega) (by assumption) (List.cons_ne_nil _ _)) rfl ?_
    first | refine TL.run1 (pure_load Ty.agg76 rfl (.succ (.succ (.succ (.succ (.succ (.succ (.zero _)))))))) rfl ?_ | refine TL.run1 (pure_load_own Ty.agg76 rfl (by repeat (first | exact List.Mem.head _ | apply List.Mem.tail)) (by repeat (first | exact DropR.zero _ | apply DropR.succ)) (.succ (.succ (.succ (.succ (.succ (.succ (.zero _)))))))) rfl ?_
    refine TL.store rfl rfl (.agg _) Tryd.sizeOf76 rfl (by repeat (first | exact UpdR.here _ | apply UpdR.there)) (by repeat (first | exact PutR.nil _ | apply PutR.here | apply PutR.skip)) ?_
    refine TL.run1 (pure_assign rfl) rfl ?_
    refine TL.nil' ?_
    refine TC.ret ?_
    exact ret_cell_tmp (.inl rfl) Ty.agg76 rfl (.head _) rfl rfl (by rw [findK, hin]; rfl)
set_option maxRecDepth 100000 in
theorem default_spec (t : Int) : Fun Tryd.prog 29 [.v (.int .i64 t)] (.tup [.v (.int .i64 (findK t).std), .v (.int .i64 (if inI (keysK tableK) t = true then 0 else 4))]) := by
  refine Fun.enter (n := 15) (rs := [.tmp 2, .tmp 3]) Tryd.func29 rfl Tryd.ntmps29 Tryd.results29 rfl (fun w F => ?_)
  refine TC.seq ?_
  refine TC.region ?_
  refine TL.run1 (pure_assign rfl) rfl ?_
  refine TL.run1 (pure_assign rfl) rfl ?_
  refine TL.nil' ?_
  refine TC.seq ?_
  refine TC.region ?_
  refine TL.run1 (pure_move rfl) rfl ?_
  refine TL.run1 (pure_call (findK_spec _) (.cons rfl .nil) Tryd.call43) rfl ?_
  refine TL.run1 (pure_move rfl) rfl ?_
  refine TL.run1 (pure_extract rfl rfl) rfl ?_
  refine TL.run1 (pure_extract rfl rfl) rfl ?_
  refine TL.alloc Ty.zero76 rfl (fun g4 => ?_)
  refine TL.store rfl rfl (.agg _) Tryd.sizeOf76 rfl (by repeat (first | exact UpdR.here _ | apply UpdR.there)) (by repeat (first | exact PutR.nil _ | apply PutR.here | apply PutR.skip)) ?_
  refine TL.run1 (pure_assign rfl) rfl ?_
  refine TL.nil' ?_
  refine TC.seq ?_
  refine TC.seq ?_
  refine TC.region ?_
  refine TL.run1 (pure_move rfl) rfl ?_
  refine TL.run1 (pure_not rfl) rfl ?_
  refine TL.nil' ?_
  first | refine TC.condD rfl (fun hc12 => ?_) (fun hc12 => ?_) | refine TC.condN rfl (fun hc12 => ?_) (fun hc12 => ?_) | refine TC.cond rfl (fun hc12 => ?_) (fun hc12 => ?_)
  · try dsimp only at hc12
    have hin : inI (keysK tableK) t = false := decide_eq_false hc12
    refine TC.seq ?_
    refine TC.region ?_
    refine TL.run1 (pure_assign rfl) rfl ?_
    refine TL.run1 (pure_assign rfl) rfl ?_
    refine TL.nil' ?_
    refine TC.ret ?_
    refine then_ret ?_
    exact ret2 (.inl rfl) rfl rfl (by first | (rw [hin]; rfl) | (rw [findK, hin]; rfl))
  · try dsimp only at hc12
    have hin : inI (keysK tableK) t = true := decide_eq_true hc12
    refine TC.skip' ?_
    refine TC.seq ?_
    refine TC.region ?_
    first | refine TL.run1 (pure_fieldAddr Ty.f76_4 rfl (.succ (.succ (.succ (.succ (.zero _))))) (List.cons_ne_nil _ _)) rfl ?_ | refine TL.run1 (pure_fieldAddr_own Ty.f76_4 rfl) rfl ?_
    first | refine TL.run1 (pure_load1 Ty.one3 rfl) rfl ?_ | refine TL.run1 (pure_load1_own Ty.one3 rfl (by repeat (first | exact List.Mem.head _ | apply List.Mem.tail)) (by repeat (first | exact DropR.zero _ | apply DropR.succ))) rfl ?_
    refine TL.run1 (pure_assign rfl) rfl ?_
    refine TL.run1 (pure_assign rfl) rfl ?_
    refine TL.nil' ?_
    refine TC.ret ?_
    exact ret2 (.inl rfl) rfl rfl (by first | (rw [hin]; rfl) | (rw [findK, hin]; rfl))
set_option maxRecDepth 100000 in
theorem value_spec (ps : List (Int × Int)) (t : Int) (hinc : Inc (keysP ps)) (hl : ps.length ≤ 1000000) : Fun Tryd.prog 44 [.sl 2 (encP ps), .v (.int .i64 t)] (.v (.int .i64 (getP ps t (findK t).std))) := by
  refine Fun.enter (n := 23) (rs := [.tmp 4]) Tryd.func44 rfl Tryd.ntmps44 Tryd.results44 rfl (fun w F => ?_)
  refine TC.seq ?_
  refine TC.region ?_
  refine TL.run1 (pure_assign rfl) rfl ?_
  refine TL.nil' ?_
  refine TC.seq ?_
  refine TC.seq ?_
  refine TC.region ?_
  refine TL.run1 (pure_move rfl) rfl ?_
  refine TL.run1 (pure_move rfl) rfl ?_
  refine TL.run1 (pure_call (getPr_spec _ _ hinc hl) (.cons rfl (.cons rfl .nil)) Tryd.call63) rfl ?_
  refine TL.run1 (pure_move rfl) rfl ?_
  refine TL.run1 (pure_extract rfl rfl) rfl ?_
  refine TL.run1 (pure_extract rfl rfl) rfl ?_
  refine TL.run1 (pure_assign rfl) rfl ?_
  refine TL.run1 (pure_assign rfl) rfl ?_
  refine TL.nil' ?_
  refine TC.seq ?_
  refine TC.region ?_
  refine TL.run1 (pure_move rfl) rfl ?_
  refine TL.nil' ?_
  first | refine TC.condD rfl (fun hc15 => ?_) (fun hc15 => ?_) | refine TC.condN rfl (fun hc15 => ?_) (fun hc15 => ?_) | refine TC.cond rfl (fun hc15 => ?_) (fun hc15 => ?_)
  · try dsimp only at hc15
    have hin : inI (keysP ps) t = true := decide_eq_true hc15
    refine TC.seq ?_
    refine TC.region ?_
    refine TL.run1 (pure_move rfl) rfl ?_
    refine TL.run1 (pure_assign rfl) rfl ?_
    refine TL.nil' ?_
    refine TC.ret ?_
    refine then_ret ?_
    exact ret_int rfl (by rw [getP_lb ps t _ hinc, getP_lb ps t _ hinc, hin]; rfl)
  · try dsimp only at hc15
    have hin : inI (keysP ps) t = false := decide_eq_false hc15
    refine TC.skip' ?_
    refine TC.seq ?_
    refine TC.region ?_
    refine TL.run1 (pure_move rfl) rfl ?_
    refine TL.run1 (pure_call (default_spec _) (.cons rfl .nil) Tryd.call29) rfl ?_
    refine TL.run1 (pure_move rfl) rfl ?_
    refine TL.run1 (pure_extract rfl rfl) rfl ?_
    refine TL.run1 (pure_extract rfl rfl) rfl ?_
    refine TL.run1 (pure_assign rfl) rfl ?_
    refine TL.run1 (pure_assign rfl) rfl ?_
    refine TL.nil' ?_
    refine TC.seq ?_
    refine TC.region ?_
    refine TL.run1 (pure_move rfl) rfl ?_
    refine TL.run1 (pure_assign rfl) rfl ?_
    refine TL.nil' ?_
    refine TC.ret ?_
    exact ret_int rfl (by rw [getP_lb ps t _ hinc, hin]; rfl)

/-! ### arrays of a call's own -/
section
variable {P : Program} {H : Hp} {env : Env} {dst : Option Tmp} {ty : TypeId} {pos : String} {af : Array Edge} {gd : Option (Nat × Bool)} {x y : Operand}
theorem pure_indexAddr_arr_own {T e n g p i : Nat} (hu : P.underlying T = some (.array n e)) (hs : ∀ w, (sizeOf e).run P w = .ok 1 w) (hx : opD env x = some (.v (.pointer (some ⟨g, p, none⟩)))) (hy : opD env y = some (.v (.int .i64 (i : Int)))) (hi : i < n) :
    Pure P H ⟨dst, .indexAddr T x y, ty, pos, af, gd⟩ env (.v (.pointer (some ⟨g, p + i, none⟩))) := pure_of fun w _ ρ _ h => by
  have e1 := Rep.of_v (h x (by simp [Op.operands]) _ hx)
  have e3 := Rep.of_v (h y (by simp [Op.operands]) _ hy)
  have e2 : (⟨g, p, none⟩ : Addr).add i = ⟨g, p + i, none⟩ := Addr.add_lit g p i
  refine ⟨_, ?_, .v _⟩
  have hi2 : (i : Int) < (n : Int) := by omega
  simp [execOp, Instr.indexAt, e1, e3, asIntOf, run_underlying hu, Instr.sureAddr, hi2, hs, e2]
  intro hh; omega
end
theorem arg_arr4 {H : Type} {enc : TypeId × Value → H} {P : Program} {w : World} {held : Bool} {t e : Nat} {v : Value} {d : DataW H} {ps : List MemPlace} {r : Reach} {base : Nat} (hu : P.underlying t = some (.array 4 e)) (he : P.underlying e = some (.int .i64)) (hce : P.cellsOf e = 1) (hct : P.cellsOf t = 4) (hps : plainS P [e] = true)
    (hv : Value.okWide P w r base t v) (h : DataW.Trod enc P w 0 (fun _ => true) held t v d ps) : ∃ a b c d' : Int, (I64 a ∧ I64 b ∧ I64 c ∧ I64 d') ∧ Rep w no (.agg [.v (.int .i64 a), .v (.int .i64 b), .v (.int .i64 c), .v (.int .i64 d')]) v := by
  obtain ⟨fuel, h⟩ := h
  unfold Value.okWide at hv
  simp only [hu] at hv
  obtain ⟨cs, rfl, hcs, _⟩ := hv
  rw [hct] at hcs
  obtain ⟨c0, c1, c2, c3, hl⟩ : ∃ c0 c1 c2 c3, cs.toList = [c0, c1, c2, c3] := by
    have h4 : cs.toList.length = 4 := by simpa using hcs
    match hm : cs.toList, h4 with
    | [c0, c1, c2, c3], _ => exact ⟨c0, c1, c2, c3, rfl⟩
  have hce2 : (Value.agg cs).cells.toList = [c0, c1, c2, c3] := hl
  rw [hce2] at h
  obtain ⟨y0, y1, y2, y3, n, _, h0, h1, h2, h3⟩ := Go.ChangeShapes.trod_array4 hu hce h
  have one : ∀ {c : Value} {y : DataW H × List MemPlace}, DataW.trod enc P w 0 (fun _ => true) held n e [c] = some y → ∃ z : Int, I64 z ∧ c = .int .i64 z := by
    intro c y hy
    obtain ⟨ds, ht, hr⟩ := trodRep hps n e [c] y (by simp) hy
    obtain ⟨z, rfl, hz⟩ := ty_int he ht
    exact ⟨z, hz, Rep.of_v (hr.2 0 _ c rfl rfl).2⟩
  obtain ⟨z0, i0, rfl⟩ := one h0
  obtain ⟨z1, i1, rfl⟩ := one h1
  obtain ⟨z2, i2, rfl⟩ := one h2
  obtain ⟨z3, i3, rfl⟩ := one h3
  have hcs2 : cs = #[.int .i64 z0, .int .i64 z1, .int .i64 z2, .int .i64 z3] := by
    apply Array.toList_inj.1; rw [hl]
  subst hcs2
  refine ⟨z0, z1, z2, z3, ⟨i0, i1, i2, i3⟩, .agg _ _ rfl (fun j u hu => ?_) (fun j d u hd hu => ?_)⟩
  · match j, hu with
    | 0, hu => cases hu; rfl
    | 1, hu => cases hu; rfl
    | 2, hu => cases hu; rfl
    | 3, hu => cases hu; rfl
    | _ + 4, hu => simp at hu
  · match j, hd, hu with
    | 0, hd, hu => cases hd; cases hu; exact .v _
    | 1, hd, hu => cases hd; cases hu; exact .v _
    | 2, hd, hu => cases hd; cases hu; exact .v _
    | 3, hd, hu => cases hd; cases hu; exact .v _
    | _ + 4, hd, _ => simp at hd
set_option maxRecDepth 100000 in
theorem Of_spec (ps : List (Int × Int)) (hinc : Inc (keysP ps)) (hl : ps.length ≤ 1000000) : Fun Tryd.prog 30 [.sl 2 (encP ps)] (.agg [.v (.int .i64 (getP ps 7 (findK 7).std)), .v (.int .i64 (getP ps 5 (findK 5).std)), .v (.int .i64 (getP ps 9 (findK 9).std)), .v (.bool (decide ((getP ps 2 (findK 2).std) ≠ 0)))]) := by
  refine Fun.enter (n := 13) (rs := [.cell 2 23]) Tryd.func30 rfl Tryd.ntmps30 Tryd.results30 rfl (fun w F => ?_)
  refine TC.seq ?_
  refine TC.region ?_
  refine TL.alloc Ty.zero23 rfl (fun g2 => ?_)
  refine TL.nil' ?_
  refine TC.seq ?_
  refine TC.region ?_
  refine TL.run1 (pure_move rfl) rfl ?_
  refine TL.run1 (pure_call (value_spec ps _ hinc hl) (.cons rfl (.cons rfl .nil)) Tryd.call44) rfl ?_
  refine TL.run1 (pure_move rfl) rfl ?_
  refine TL.run1 (pure_call (value_spec ps _ hinc hl) (.cons rfl (.cons rfl .nil)) Tryd.call44) rfl ?_
  refine TL.run1 (pure_move rfl) rfl ?_
  refine TL.run1 (pure_call (value_spec ps _ hinc hl) (.cons rfl (.cons rfl .nil)) Tryd.call44) rfl ?_
  refine TL.run1 (pure_move rfl) rfl ?_
  refine TL.run1 (pure_call (value_spec ps _ hinc hl) (.cons rfl (.cons rfl .nil)) Tryd.call44) rfl ?_
  refine TL.run1 (pure_neq rfl rfl) rfl ?_
  refine TL.run1 (pure_build Ty.pl23 Ty.zero23 (.cons rfl rfl (.one rfl) rfl (.here (.nil _)) (.cons rfl rfl (.one rfl) rfl (.skip (.here (.nil _))) (.cons rfl rfl (.one rfl) rfl (.skip (.skip (.here (.nil _)))) (.cons rfl rfl (.one rfl) rfl (.skip (.skip (.skip (.here (.nil _))))) (.nil _)))))) rfl ?_
  refine TL.store rfl rfl (.agg _) Tryd.sizeOf23 rfl (by repeat (first | exact UpdR.here _ | apply UpdR.there)) (by repeat (first | exact PutR.nil _ | apply PutR.here | apply PutR.skip)) ?_
  refine TL.nil' ?_
  refine TC.ret ?_
  exact ret_cell (.inl rfl) Ty.agg23 rfl (by repeat (first | exact List.Mem.head _ | apply List.Mem.tail)) rfl rfl

def psF (a b c d : Int) : List (Int × Int) := [(2, a), (5, b), (7, c), (9, d)]
theorem psF_inc (a b c d : Int) : Inc (keysP (psF a b c d)) := by unfold Inc keysP psF; simp only [List.map_cons, List.map_nil]; decide
theorem std_all : (findK 7).std = 0 ∧ (findK 9).std = 0 ∧ (findK 2).std = 0 := by decide +kernel
theorem def5 : (if inI (keysK tableK) 5 = true then (0 : Int) else 4) = 0 := by decide +kernel
theorem OfF_spec (a b c d : Int) : Fun Tryd.prog 30 [.sl 2 (encP (psF a b c d))] (.agg [.v (.int .i64 (Fo.mk c b d (decide (a ≠ 0))).face), .v (.int .i64 (Fo.mk c b d (decide (a ≠ 0))).size), .v (.int .i64 (Fo.mk c b d (decide (a ≠ 0))).raise), .v (.bool (Fo.mk c b d (decide (a ≠ 0))).bold)]) := by
  have h := Of_spec (psF a b c d) (psF_inc a b c d) (by show 4 ≤ 1000000; decide)
  exact h
theorem OfN_spec : Fun Tryd.prog 30 [.sl 2 (encP [])] (.agg [.v (.int .i64 (Fo.mk 0 (findK 5).std 0 false).face), .v (.int .i64 (Fo.mk 0 (findK 5).std 0 false).size), .v (.int .i64 (Fo.mk 0 (findK 5).std 0 false).raise), .v (.bool (Fo.mk 0 (findK 5).std 0 false).bold)]) := by
  have h := Of_spec [] List.Pairwise.nil (by decide)
  have e1 : getP [] 7 (findK 7).std = 0 := std_all.1
  have e2 : getP [] 9 (findK 9).std = 0 := std_all.2.1
  have e3 : getP [] 2 (findK 2).std = 0 := std_all.2.2
  rw [e1, e2, e3] at h
  exact h
set_option maxHeartbeats 2000000 in
set_option maxRecDepth 100000 in
theorem MetricsFonts_spec (a b c d : Int) (f : Fo) : Fun Tryd.prog 11 [.agg [.v (.int .i64 a), .v (.int .i64 b), .v (.int .i64 c), .v (.int .i64 d)], .agg [.v (.int .i64 f.face), .v (.int .i64 f.size), .v (.int .i64 f.raise), .v (.bool f.bold)]] (.v (.bool true)) := by
  refine Fun.enter (n := 62) (rs := [.tmp 4]) Tryd.func11 rfl Tryd.ntmps11 Tryd.results11 rfl (fun w F => ?_)
  refine TC.seq ?_
  refine TC.region ?_
  refine TL.box rfl (.agg _) rfl (fun g2 => ?_)
  refine TL.box rfl (.agg _) rfl (fun g3 => ?_)
  refine TL.run1 (pure_assign rfl) rfl ?_
  refine TL.nil' ?_
  refine TC.seq ?_
  refine TC.seq ?_
  refine TC.region ?_
  refine TL.run1 (pure_call (known_spec) .nil Tryd.call13) rfl ?_
  refine TL.run1 (pure_not rfl) rfl ?_
  refine TL.nil' ?_
  first | refine TC.condD rfl (fun hc10 => ?_) (fun hc10 => ?_) | refine TC.condN rfl (fun hc10 => ?_) (fun hc10 => ?_) | refine TC.cond rfl (fun hc10 => ?_) (fun hc10 => ?_)
  · try dsimp only at hc10
    exact absurd hc10 (by decide)
  · try dsimp only at hc10
    refine TC.skip' ?_
    refine TC.seq ?_
    refine TC.region ?_
    refine TL.run1 (pure_indexAddr_arr_own (i := 0) Tryd.underlying54 Tryd.sizeOf3 rfl rfl (by decide)) rfl ?_
    first | refine TL.run1 (pure_load1 Ty.one3 rfl) rfl ?_ | refine TL.run1 (pure_load1_own Ty.one3 rfl (by repeat (first | exact List.Mem.head _ | apply List.Mem.tail)) (by repeat (first | exact DropR.zero _ | apply DropR.succ))) rfl ?_
    refine TL.run1 (pure_build Ty.pl56 Ty.zero56 (.cons rfl rfl (.one rfl) rfl (.here (.nil _)) (.cons rfl rfl (.one rfl) rfl (.skip (.here (.nil _))) (.nil _)))) rfl ?_
    refine TL.run1 (pure_indexAddr_arr_own (i := 1) Tryd.underlying54 Tryd.sizeOf3 rfl rfl (by decide)) rfl ?_
    first | refine TL.run1 (pure_load1 Ty.one3 rfl) rfl ?_ | refine TL.run1 (pure_load1_own Ty.one3 rfl (by repeat (first | exact List.Mem.head _ | apply List.Mem.tail)) (by repeat (first | exact DropR.zero _ | apply DropR.succ))) rfl ?_
    refine TL.run1 (pure_build Ty.pl56 Ty.zero56 (.cons rfl rfl (.one rfl) rfl (.here (.nil _)) (.cons rfl rfl (.one rfl) rfl (.skip (.here (.nil _))) (.nil _)))) rfl ?_
    refine TL.run1 (pure_indexAddr_arr_own (i := 2) Tryd.underlying54 Tryd.sizeOf3 rfl rfl (by decide)) rfl ?_
    first | refine TL.run1 (pure_load1 Ty.one3 rfl) rfl ?_ | refine TL.run1 (pure_load1_own Ty.one3 rfl (by repeat (first | exact List.Mem.head _ | apply List.Mem.tail)) (by repeat (first | exact DropR.zero _ | apply DropR.succ))) rfl ?_
    refine TL.run1 (pure_build Ty.pl56 Ty.zero56 (.cons rfl rfl (.one rfl) rfl (.here (.nil _)) (.cons rfl rfl (.one rfl) rfl (.skip (.here (.nil _))) (.nil _)))) rfl ?_
    refine TL.run1 (pure_indexAddr_arr_own (i := 3) Tryd.underlying54 Tryd.sizeOf3 rfl rfl (by decide)) rfl ?_
    first | refine TL.run1 (pure_load1 Ty.one3 rfl) rfl ?_ | refine TL.run1 (pure_load1_own Ty.one3 rfl (by repeat (first | exact List.Mem.head _ | apply List.Mem.tail)) (by repeat (first | exact DropR.zero _ | apply DropR.succ))) rfl ?_
    refine TL.run1 (pure_build Ty.pl56 Ty.zero56 (.cons rfl rfl (.one rfl) rfl (.here (.nil _)) (.cons rfl rfl (.one rfl) rfl (.skip (.here (.nil _))) (.nil _)))) rfl ?_
    refine TL.run1 (pure_buildSlice (ys := encP (psF a b c d)) Ty.app57 (by decide) rfl rfl (.cons rfl (.agg _) rfl (.cons rfl (.agg _) rfl (.cons rfl (.agg _) rfl (.cons rfl (.agg _) rfl .nil))))) rfl ?_
    refine TL.run1 (pure_assign rfl) rfl ?_
    refine TL.nil' ?_
    refine TC.seq ?_
    refine TC.region ?_
    refine TL.run1 (pure_call (default_spec 5) (.cons rfl .nil) Tryd.call29) rfl ?_
    refine TL.run1 (pure_move rfl) rfl ?_
    refine TL.run1 (pure_extract rfl rfl) rfl ?_
    refine TL.run1 (pure_extract rfl rfl) rfl ?_
    refine TL.run1 (pure_assign rfl) rfl ?_
    refine TL.run1 (pure_assign rfl) rfl ?_
    refine TL.nil' ?_
    refine TC.seq ?_
    refine TC.region ?_
    refine TL.run1 (pure_move rfl) rfl ?_
    first | refine TL.run1 (pure_call (OfF_spec a b c d) (.cons rfl .nil) Tryd.call30) rfl ?_ | refine TL.run1 (pure_call (OfN_spec.le (.cons (.nil 2) (.refl _)) (.refl _)) (.cons rfl .nil) Tryd.call30) rfl ?_
    refine TL.alloc Ty.zero23 rfl (fun g8 => ?_)
    refine TL.store rfl rfl (.agg _) Tryd.sizeOf23 rfl (by repeat (first | exact UpdR.here _ | apply UpdR.there)) (by repeat (first | exact PutR.nil _ | apply PutR.here | apply PutR.skip)) ?_
    refine TL.nil' ?_
    refine TC.drawCut [30, 31, 32, 33, 34, 35, 36, 37, 38, 39, 40, 41, 42, 43, 44, 45, 46, 47, 48, 49, 50, 51, 52, 53, 54, 55, 56, 57, 58, 59, 60, 61, 4] 4 (True) Ty.follows (by kernel_rfl) ?_ ?_
    · skip
      first | refine TD.run1 (pure_load Ty.agg23 rfl (.succ (.succ (.succ (.succ (.zero _)))))) rfl ?_ | refine TD.run1 (pure_load_own Ty.agg23 rfl (by repeat (first | exact List.Mem.head _ | apply List.Mem.tail)) (by repeat (first | exact DropR.zero _ | apply DropR.succ)) (.succ (.succ (.succ (.succ (.zero _)))))) rfl ?_
      refine TD.run1 (pure_indexAddr_arr_own (i := 2) Tryd.underlying54 Tryd.sizeOf3 rfl rfl (by decide)) rfl ?_
      first | refine TD.run1 (pure_load1 Ty.one3 rfl) rfl ?_ | refine TD.run1 (pure_load1_own Ty.one3 rfl (by repeat (first | exact List.Mem.head _ | apply List.Mem.tail)) (by repeat (first | exact DropR.zero _ | apply DropR.succ))) rfl ?_
      refine TD.run1 (pure_indexAddr_arr_own (i := 1) Tryd.underlying54 Tryd.sizeOf3 rfl rfl (by decide)) rfl ?_
      first | refine TD.run1 (pure_load1 Ty.one3 rfl) rfl ?_ | refine TD.run1 (pure_load1_own Ty.one3 rfl (by repeat (first | exact List.Mem.head _ | apply List.Mem.tail)) (by repeat (first | exact DropR.zero _ | apply DropR.succ))) rfl ?_
      refine TD.run1 (pure_indexAddr_arr_own (i := 3) Tryd.underlying54 Tryd.sizeOf3 rfl rfl (by decide)) rfl ?_
      first | refine TD.run1 (pure_load1 Ty.one3 rfl) rfl ?_ | refine TD.run1 (pure_load1_own Ty.one3 rfl (by repeat (first | exact List.Mem.head _ | apply List.Mem.tail)) (by repeat (first | exact DropR.zero _ | apply DropR.succ))) rfl ?_
      refine TD.run1 (pure_indexAddr_arr_own (i := 0) Tryd.underlying54 Tryd.sizeOf3 rfl rfl (by decide)) rfl ?_
      first | refine TD.run1 (pure_load1 Ty.one3 rfl) rfl ?_ | refine TD.run1 (pure_load1_own Ty.one3 rfl (by repeat (first | exact List.Mem.head _ | apply List.Mem.tail)) (by repeat (first | exact DropR.zero _ | apply DropR.succ))) rfl ?_
      refine TD.run1 (pure_neq rfl rfl) rfl ?_
      refine TD.run1 (pure_build Ty.pl23 Ty.zero23 (.cons rfl rfl (.one rfl) rfl (.here (.nil _)) (.cons rfl rfl (.one rfl) rfl (.skip (.here (.nil _))) (.cons rfl rfl (.one rfl) rfl (.skip (.skip (.here (.nil _)))) (.cons rfl rfl (.one rfl) rfl (.skip (.skip (.skip (.here (.nil _))))) (.nil _)))))) rfl ?_
      refine TD.run1 (pure_eql_mv Ty.eqm23 rfl rfl (.i (.i (.i (.b .nil)))) (.i (.i (.i (.b .nil)))) rfl rfl) rfl ?_
      refine TD.run1 (pure_move rfl) rfl ?_
      first | refine TD.splitP 42 rfl (fun hg42 => ?_) (fun hg42 => ?_) | refine TD.split 42 rfl (fun hg42 => ?_) (fun hg42 => ?_)
      · try dsimp only at hg42
        first | refine TD.runG rfl rfl (pure_call (OfF_spec a b c d) (.cons rfl .nil) Tryd.call30) rfl ?_ | refine TD.runG rfl rfl (pure_call (OfN_spec.le (.cons (.nil 2) (.refl _)) (.refl _)) (.cons rfl .nil) Tryd.call30) rfl ?_
        refine TD.runG rfl rfl (pure_move rfl) rfl ?_
        refine TD.runG rfl rfl (pure_build Ty.pl23 Ty.zero23 (.cons rfl rfl (.one rfl) rfl (.skip (.here (.nil _))) (.nil _))) rfl ?_
        refine TD.runG rfl rfl (pure_eql_mv Ty.eqm23 rfl rfl (.i (.i (.i (.b .nil)))) (.i (.i (.i (.b .nil)))) rfl rfl) rfl ?_
        refine TD.run1 (pure_pick_true rfl rfl) rfl ?_
        refine TD.run1 (pure_move rfl) rfl ?_
        first | refine TD.splitP 48 rfl (fun hg48 => ?_) (fun hg48 => ?_) | refine TD.split 48 rfl (fun hg48 => ?_) (fun hg48 => ?_)
        · try dsimp only at hg48
          first | refine TD.runG rfl rfl (pure_load Ty.agg23 rfl (.succ (.succ (.succ (.succ (.zero _)))))) rfl ?_ | refine TD.runG rfl rfl (pure_load_own Ty.agg23 rfl (by repeat (first | exact List.Mem.head _ | apply List.Mem.tail)) (by repeat (first | exact DropR.zero _ | apply DropR.succ)) (.succ (.succ (.succ (.succ (.zero _)))))) rfl ?_
          first | refine TD.runG rfl rfl (pure_call (Check_spec (Fo.mk c b d (decide (a ≠ 0)))) (.cons rfl .nil) Tryd.call31) rfl ?_ | refine TD.runG rfl rfl (pure_call (Check_spec f) (.cons rfl .nil) Tryd.call31) rfl ?_
          first | refine TD.runG rfl rfl (pure_load Ty.agg23 rfl (.succ (.succ (.succ (.succ (.zero _)))))) rfl ?_ | refine TD.runG rfl rfl (pure_load_own Ty.agg23 rfl (by repeat (first | exact List.Mem.head _ | apply List.Mem.tail)) (by repeat (first | exact DropR.zero _ | apply DropR.succ)) (.succ (.succ (.succ (.succ (.zero _)))))) rfl ?_
          first | refine TD.runG rfl rfl (pure_call (check_spec (Fo.mk c b d (decide (a ≠ 0)))) (.cons rfl .nil) Tryd.call16) rfl ?_ | refine TD.runG rfl rfl (pure_call (check_spec f) (.cons rfl .nil) Tryd.call16) rfl ?_
          refine TD.runG rfl rfl (pure_eql rfl rfl) rfl ?_
          refine TD.run1 (pure_pick_true rfl rfl) rfl ?_
          refine TD.run1 (pure_move rfl) rfl ?_
          first | refine TD.splitP 55 rfl (fun hg55 => ?_) (fun hg55 => ?_) | refine TD.split 55 rfl (fun hg55 => ?_) (fun hg55 => ?_)
          · try dsimp only at hg55
            first | refine TD.runG rfl rfl (pure_load Ty.agg23 rfl (.succ (.succ (.succ (.succ (.zero _)))))) rfl ?_ | refine TD.runG rfl rfl (pure_load_own Ty.agg23 rfl (by repeat (first | exact List.Mem.head _ | apply List.Mem.tail)) (by repeat (first | exact DropR.zero _ | apply DropR.succ)) (.succ (.succ (.succ (.succ (.zero _)))))) rfl ?_
            first | refine TD.runG rfl rfl (pure_call (Check_spec (Fo.mk c b d (decide (a ≠ 0)))) (.cons rfl .nil) Tryd.call31) rfl ?_ | refine TD.runG rfl rfl (pure_call (Check_spec f) (.cons rfl .nil) Tryd.call31) rfl ?_
            first | refine TD.runG rfl rfl (pure_load Ty.agg23 rfl (.succ (.succ (.succ (.succ (.zero _)))))) rfl ?_ | refine TD.runG rfl rfl (pure_load_own Ty.agg23 rfl (by repeat (first | exact List.Mem.head _ | apply List.Mem.tail)) (by repeat (first | exact DropR.zero _ | apply DropR.succ)) (.succ (.succ (.succ (.succ (.zero _)))))) rfl ?_
            first | refine TD.runG rfl rfl (pure_call (check_spec (Fo.mk c b d (decide (a ≠ 0)))) (.cons rfl .nil) Tryd.call16) rfl ?_ | refine TD.runG rfl rfl (pure_call (check_spec f) (.cons rfl .nil) Tryd.call16) rfl ?_
            refine TD.runG rfl rfl (pure_eql rfl rfl) rfl ?_
            refine TD.run1 (pure_pick_true rfl rfl) rfl ?_
            refine TD.run1 (pure_assign rfl) rfl ?_
            refine TD.cutEnd (by repeat (first | exact Same.refl _ _ | refine Same.put rfl ?_)) rfl ?_
            first | (simp; done) | (simp_all; done)
          · try dsimp only at hg55
            refine TD.passG rfl rfl rfl rfl ?_
            refine TD.passG rfl rfl rfl rfl ?_
            refine TD.passG rfl rfl rfl rfl ?_
            refine TD.passG rfl rfl rfl rfl ?_
            refine TD.passG rfl rfl rfl rfl ?_
            refine TD.run1 (pure_pick_false rfl rfl) rfl ?_
            refine TD.run1 (pure_assign rfl) rfl ?_
            refine TD.cutEnd (by repeat (first | exact Same.refl _ _ | refine Same.put rfl ?_)) rfl ?_
            first | (simp; done) | (simp_all; done)
        · try dsimp only at hg48
          refine TD.passG rfl rfl rfl rfl ?_
          refine TD.passG rfl rfl rfl rfl ?_
          refine TD.passG rfl rfl rfl rfl ?_
          refine TD.passG rfl rfl rfl rfl ?_
          refine TD.passG rfl rfl rfl rfl ?_
          refine TD.run1 (pure_pick_false rfl rfl) rfl ?_
          refine TD.run1 (pure_move rfl) rfl ?_
          refine TD.passG rfl rfl rfl rfl ?_
          refine TD.passG rfl rfl rfl rfl ?_
          refine TD.passG rfl rfl rfl rfl ?_
          refine TD.passG rfl rfl rfl rfl ?_
          refine TD.passG rfl rfl rfl rfl ?_
          refine TD.run1 (pure_pick_false rfl rfl) rfl ?_
          refine TD.run1 (pure_assign rfl) rfl ?_
          refine TD.cutEnd (by repeat (first | exact Same.refl _ _ | refine Same.put rfl ?_)) rfl ?_
          first | (simp; done) | (simp_all; done)
      · try dsimp only at hg42
        refine TD.passG rfl rfl rfl rfl ?_
        refine TD.passG rfl rfl rfl rfl ?_
        refine TD.passG rfl rfl rfl rfl ?_
        refine TD.passG rfl rfl rfl rfl ?_
        refine TD.run1 (pure_pick_false rfl rfl) rfl ?_
        refine TD.run1 (pure_move rfl) rfl ?_
        refine TD.passG rfl rfl rfl rfl ?_
        refine TD.passG rfl rfl rfl rfl ?_
        refine TD.passG rfl rfl rfl rfl ?_
        refine TD.passG rfl rfl rfl rfl ?_
        refine TD.passG rfl rfl rfl rfl ?_
        refine TD.run1 (pure_pick_false rfl rfl) rfl ?_
        refine TD.run1 (pure_move rfl) rfl ?_
        refine TD.passG rfl rfl rfl rfl ?_
        refine TD.passG rfl rfl rfl rfl ?_
        refine TD.passG rfl rfl rfl rfl ?_
        refine TD.passG rfl rfl rfl rfl ?_
        refine TD.passG rfl rfl rfl rfl ?_
        refine TD.run1 (pure_pick_false rfl rfl) rfl ?_
        refine TD.run1 (pure_assign rfl) rfl ?_
        refine TD.cutEnd (by repeat (first | exact Same.refl _ _ | refine Same.put rfl ?_)) rfl ?_
        first | (simp; done) | (simp_all; done)
    refine TC.ret ?_
    exact ret_bool rfl (by simp)
end Go.Ob
