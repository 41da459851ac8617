import Derived.Test.YtlhjcleejolbiaaZc
set_option linter.unusedVariables false
set_option linter.unusedSimpArgs false
set_option linter.unnecessarySimpa false
set_option linter.unusedVariables false
set_option linter.unusedSimpArgs false
namespace Go.Ob
open Go.Proofs
def cmpI (a b : Int) : Int := if a < b then -1 else if b < a then 1 else 0
theorem cmpI_neg (a b : Int) : cmpI a b < 0 ↔ a < b := by
  unfold cmpI; repeat' split
  all_goals omega
theorem cmpI_zero (a b : Int) : cmpI a b = 0 ↔ a = b := by
  unfold cmpI; repeat' split
  all_goals omega
def lbI (ks : List Int) (t : Int) : Nat := (ks.takeWhile (· < t)).length
def kAt (ks : List Int) (i : Nat) : Int := ks.getD i 0
def Inc (ks : List Int) : Prop := ks.Pairwise (· < ·)
theorem Inc.lt {ks : List Int} (h : Inc ks) {i j : Nat} (hij : i < j) (hj : j < ks.length) : kAt ks i < kAt ks j := by
  have := List.pairwise_iff_getElem.1 h i j (by omega) hj hij
  simpa [kAt, List.getD_eq_getElem?_getD, hj, show i < ks.length by omega] using this
theorem lbI_eq (ks : List Int) (t : Int) : ∀ (i : Nat), i ≤ ks.length → (∀ j, j < i → kAt ks j < t) → (i < ks.length → t ≤ kAt ks i) → lbI ks t = i := by
  unfold lbI
  induction ks with
  | nil => intro i hi _ _; simp at hi; simp [hi]
  | cons k ks ih =>
    intro i hi h1 h2
    cases i with
    | zero =>
      have := h2 (by simp)
      simp only [kAt, List.getD_cons_zero] at this
      simp [show ¬ k < t by omega]
    | succ i =>
      have h0 := h1 0 (by omega)
      simp only [kAt, List.getD_cons_zero] at h0
      rw [List.takeWhile_cons, if_pos (by simpa using h0), List.length_cons]
      rw [ih i (by simpa using hi) (fun j hj => by simpa [kAt] using h1 (j + 1) (by omega)) (fun hl => by simpa [kAt] using h2 (by simpa using hl))]
theorem lbI_le (ks : List Int) (t : Int) : lbI ks t ≤ ks.length := by
  unfold lbI
  exact (List.takeWhile_prefix _).length_le
def inI (ks : List Int) (t : Int) : Bool := decide (lbI ks t < ks.length ∧ kAt ks (lbI ks t) = t)
def encP (ps : List (Int × Int)) : List (List D) := ps.map fun p => [.v (.int .i64 p.1), .v (.int .i64 p.2)]
theorem encP_len (ps : List (Int × Int)) : (encP ps).length = ps.length := by simp [encP]
def pAt (ps : List (Int × Int)) (i : Int) : Int × Int := ps.getD i.toNat (0, 0)
theorem encP_get (ps : List (Int × Int)) (i : Int) (h0 : 0 ≤ i) (h1 : i < ps.length) : (encP ps)[i.toNat]? = some [.v (.int .i64 (pAt ps i).1), .v (.int .i64 (pAt ps i).2)] := by
  have : i.toNat < ps.length := by omega
  simp [encP, pAt, this]
def keysP (ps : List (Int × Int)) : List Int := ps.map (·.1)
theorem keysP_len (ps : List (Int × Int)) : (keysP ps).length = ps.length := by simp [keysP]
theorem kAt_keysP (ps : List (Int × Int)) (i : Nat) (h : i < ps.length) : kAt (keysP ps) i = (pAt ps i).1 := by simp [kAt, keysP, pAt, h]
def getP : List (Int × Int) → Int → Int → Int
  | [], _, dflt => dflt
  | (k, v) :: ps, key, dflt => if k = key then v else getP ps key dflt
theorem getP_drop (ps : List (Int × Int)) (i : Int) (h0 : 0 ≤ i) (h1 : i < ps.length) (key dflt : Int) :
    getP (ps.drop i.toNat) key dflt = if (pAt ps i).1 = key then (pAt ps i).2 else getP (ps.drop (i + 1).toNat) key dflt := by
  have hl : i.toNat < ps.length := by omega
  rw [List.drop_eq_getElem_cons hl, show (i + 1).toNat = i.toNat + 1 by omega]
  simp [getP, pAt, hl]
theorem getP_lb (ps : List (Int × Int)) (key dflt : Int) (hinc : Inc (keysP ps)) : getP ps key dflt = if inI (keysP ps) key = true then (pAt ps (lbI (keysP ps) key)).2 else dflt := by
  induction ps with
  | nil => simp [getP, inI, keysP]
  | cons p ps ih =>
    obtain ⟨k, v⟩ := p
    have ih := ih (List.pairwise_cons.1 hinc).2
    by_cases hk : k < key
    · have e1 : lbI (keysP ((k, v) :: ps)) key = lbI (keysP ps) key + 1 := by simp [lbI, keysP, hk]
      have e2 : inI (keysP ((k, v) :: ps)) key = inI (keysP ps) key := by
        unfold inI; rw [e1]; simp [keysP, kAt]
      rw [e2, getP, if_neg (by omega), ih]
      by_cases h : inI (keysP ps) key = true
      · rw [if_pos h, if_pos h, e1]
        unfold pAt
        rw [Int.toNat_natCast, Int.toNat_natCast, List.getD_cons_succ]
      · rw [if_neg h, if_neg h]
    · have e1 : lbI (keysP ((k, v) :: ps)) key = 0 := by simp [lbI, keysP, hk]
      have e2 : inI (keysP ((k, v) :: ps)) key = decide (k = key) := by
        unfold inI; rw [e1]; simp [keysP, kAt]
      rw [e2, getP]
      by_cases h : k = key
      · rw [if_pos h, if_pos (by simpa using h), e1]; rfl
      · rw [if_neg h]
        simp only [h, decide_false, Bool.false_eq_true, if_false]
        have : ∀ (qs : List (Int × Int)), (∀ q ∈ qs, key < q.1) → getP qs key dflt = dflt := by
          intro qs
          induction qs with
          | nil => intro _; rfl
          | cons q qs ihq => intro hq; rw [getP, if_neg (by have := hq q (by simp); omega)]; exact ihq fun q' hq' => hq q' (by simp [hq'])
        refine this ps fun q hq => ?_
        have : k < q.1 := (List.pairwise_cons.1 hinc).1 q.1 (List.mem_map.2 ⟨q, hq, rfl⟩)
        omega
set_option maxRecDepth 100000 in
theorem isNaN_spec (x : Int) : Fun Try.prog 88 [.v (.int .i64 x)] (.v (.bool false)) := by
  refine Fun.enter (n := 6) (rs := [.tmp 2]) Try.func88 rfl Try.ntmps88 Try.results88 rfl (fun w F => ?_)
  refine TC.seq ?_
  refine TC.region ?_
  refine TL.run1 (pure_assign rfl) rfl ?_
  refine TL.nil' ?_
  refine TC.seq ?_
  refine TC.region ?_
  refine TL.run1 (pure_move rfl) rfl ?_
  refine TL.run1 (pure_move rfl) rfl ?_
  refine TL.run1 (pure_neq rfl rfl) rfl ?_
  refine TL.run1 (pure_assign rfl) rfl ?_
  refine TL.nil' ?_
  refine TC.ret ?_
  exact ret_bool rfl (by simp)
set_option maxRecDepth 100000 in
theorem compare_spec (x y : Int) : Fun Try.prog 78 [.v (.int .i64 x), .v (.int .i64 y)] (.v (.int .i64 (cmpI x y))) := by
  refine Fun.enter (n := 20) (rs := [.tmp 4]) Try.func78 rfl Try.ntmps78 Try.results78 rfl (fun w F => ?_)
  refine TC.seq ?_
  refine TC.region ?_
  refine TL.run1 (pure_assign rfl) rfl ?_
  refine TL.nil' ?_
  refine TC.seq ?_
  refine TC.region ?_
  refine TL.run1 (pure_move rfl) rfl ?_
  refine TL.run1 (pure_call (isNaN_spec _) (.cons rfl .nil) Try.call88) rfl ?_
  refine TL.run1 (pure_assign rfl) rfl ?_
  refine TL.nil' ?_
  refine TC.seq ?_
  refine TC.region ?_
  refine TL.run1 (pure_move rfl) rfl ?_
  refine TL.run1 (pure_call (isNaN_spec _) (.cons rfl .nil) Try.call88) rfl ?_
  refine TL.run1 (pure_assign rfl) rfl ?_
  refine TL.nil' ?_
  refine TC.seq ?_
  refine TC.seq ?_
  refine TC.region ?_
  refine TL.run1 (pure_move rfl) rfl ?_
  refine TL.nil' ?_
  first | refine TC.condD rfl (fun hc11 => ?_) (fun hc11 => ?_) | refine TC.condN rfl (fun hc11 => ?_) (fun hc11 => ?_) | refine TC.cond rfl (fun hc11 => ?_) (fun hc11 => ?_)
  · try dsimp only at hc11
    refine TC.seq ?_
    refine TC.seq ?_
    refine TC.region ?_
    refine TL.run1 (pure_move rfl) rfl ?_
    refine TL.nil' ?_
    first | refine TC.condD rfl (fun hc12 => ?_) (fun hc12 => ?_) | refine TC.condN rfl (fun hc12 => ?_) (fun hc12 => ?_) | refine TC.cond rfl (fun hc12 => ?_) (fun hc12 => ?_)
    · try dsimp only at hc12
      refine TC.seq ?_
      refine TC.region ?_
      refine TL.run1 (pure_assign rfl) rfl ?_
      refine TL.nil' ?_
      refine TC.ret ?_
      refine then_ret ?_
      refine then_ret ?_
      first | (exact absurd ‹false = true› (by simp)) | exact ret_int rfl (by unfold cmpI; first | rw [if_pos ‹_›] | rw [if_neg ‹_›, if_pos ‹_›] | rw [if_neg ‹_›, if_neg ‹_›])
    · try dsimp only at hc12
      refine TC.skip' ?_
      refine TC.seq ?_
      refine TC.region ?_
      refine TL.run1 (pure_assign rfl) rfl ?_
      refine TL.nil' ?_
      refine TC.ret ?_
      refine then_ret ?_
      first | (exact absurd ‹false = true› (by simp)) | exact ret_int rfl (by unfold cmpI; first | rw [if_pos ‹_›] | rw [if_neg ‹_›, if_pos ‹_›] | rw [if_neg ‹_›, if_neg ‹_›])
  · try dsimp only at hc11
    refine TC.skip' ?_
    refine TC.seq ?_
    refine TC.seq ?_
    refine TC.region ?_
    refine TL.run1 (pure_move rfl) rfl ?_
    refine TL.nil' ?_
    first | refine TC.condD rfl (fun hc13 => ?_) (fun hc13 => ?_) | refine TC.condN rfl (fun hc13 => ?_) (fun hc13 => ?_) | refine TC.cond rfl (fun hc13 => ?_) (fun hc13 => ?_)
    · try dsimp only at hc13
      refine TC.seq ?_
      refine TC.region ?_
      refine TL.run1 (pure_assign rfl) rfl ?_
      refine TL.nil' ?_
      refine TC.ret ?_
      refine then_ret ?_
      first | (exact absurd ‹false = true› (by simp)) | exact ret_int rfl (by unfold cmpI; first | rw [if_pos ‹_›] | rw [if_neg ‹_›, if_pos ‹_›] | rw [if_neg ‹_›, if_neg ‹_›])
    · try dsimp only at hc13
      refine TC.skip' ?_
      refine TC.seq ?_
      refine TC.seq ?_
      refine TC.region ?_
      refine TL.run1 (pure_move rfl) rfl ?_
      refine TL.run1 (pure_move rfl) rfl ?_
      refine TL.run1 (pure_lss rfl rfl) rfl ?_
      refine TL.nil' ?_
      first | refine TC.condD rfl (fun hc16 => ?_) (fun hc16 => ?_) | refine TC.condN rfl (fun hc16 => ?_) (fun hc16 => ?_) | refine TC.cond rfl (fun hc16 => ?_) (fun hc16 => ?_)
      · try dsimp only at hc16
        refine TC.seq ?_
        refine TC.region ?_
        refine TL.run1 (pure_assign rfl) rfl ?_
        refine TL.nil' ?_
        refine TC.ret ?_
        refine then_ret ?_
        first | (exact absurd ‹false = true› (by simp)) | exact ret_int rfl (by unfold cmpI; first | rw [if_pos ‹_›] | rw [if_neg ‹_›, if_pos ‹_›] | rw [if_neg ‹_›, if_neg ‹_›])
      · try dsimp only at hc16
        refine TC.skip' ?_
        refine TC.seq ?_
        refine TC.seq ?_
        refine TC.region ?_
        refine TL.run1 (pure_move rfl) rfl ?_
        refine TL.run1 (pure_move rfl) rfl ?_
        refine TL.run1 (pure_gtr rfl rfl) rfl ?_
        refine TL.nil' ?_
        first | refine TC.condD rfl (fun hc19 => ?_) (fun hc19 => ?_) | refine TC.condN rfl (fun hc19 => ?_) (fun hc19 => ?_) | refine TC.cond rfl (fun hc19 => ?_) (fun hc19 => ?_)
        · try dsimp only at hc19
          refine TC.seq ?_
          refine TC.region ?_
          refine TL.run1 (pure_assign rfl) rfl ?_
          refine TL.nil' ?_
          refine TC.ret ?_
          refine then_ret ?_
          first | (exact absurd ‹false = true› (by simp)) | exact ret_int rfl (by unfold cmpI; first | rw [if_pos ‹_›] | rw [if_neg ‹_›, if_pos ‹_›] | rw [if_neg ‹_›, if_neg ‹_›])
        · try dsimp only at hc19
          refine TC.skip' ?_
          refine TC.seq ?_
          refine TC.region ?_
          refine TL.run1 (pure_assign rfl) rfl ?_
          refine TL.nil' ?_
          refine TC.ret ?_
          first | (exact absurd ‹false = true› (by simp)) | exact ret_int rfl (by unfold cmpI; first | rw [if_pos ‹_›] | rw [if_neg ‹_›, if_pos ‹_›] | rw [if_neg ‹_›, if_neg ‹_›])
set_option maxRecDepth 100000 in
theorem search1_spec (k v t : Int) : Fun Try.prog 77 [.agg [.v (.int .i64 k), .v (.int .i64 v)], .v (.int .i64 t)] (.v (.int .i64 (cmpI k t))) := by
  refine Fun.enter (n := 9) (rs := [.tmp 4]) Try.func77 rfl Try.ntmps77 Try.results77 rfl (fun w F => ?_)
  refine TC.seq ?_
  refine TC.region ?_
  refine TL.box rfl (.agg _) rfl (fun g2 => ?_)
  refine TL.run1 (pure_assign rfl) rfl ?_
  refine TL.nil' ?_
  refine TC.seq ?_
  refine TC.region ?_
  first | refine TL.run1 (pure_fieldAddr Ty.f77_0 rfl (.zero _) (List.cons_ne_nil _ _)) rfl ?_ | refine TL.run1 (pure_fieldAddr_own Ty.f77_0 rfl) rfl ?_
  first | refine TL.run1 (pure_load1 Ty.one3 rfl) rfl ?_ | refine TL.run1 (pure_load1_own Ty.one3 rfl (by repeat (first | exact List.Mem.head _ | apply List.Mem.tail)) (by repeat (first | exact DropR.zero _ | apply DropR.succ))) rfl ?_
  refine TL.run1 (pure_move rfl) rfl ?_
  refine TL.run1 (pure_call (compare_spec _ _) (.cons rfl (.cons rfl .nil)) Try.call78) rfl ?_
  refine TL.run1 (pure_assign rfl) rfl ?_
  refine TL.nil' ?_
  refine TC.ret ?_
  exact ret_int rfl rfl
set_option maxRecDepth 100000 in
theorem bsP_spec (ps : List (Int × Int)) (t : Int) (hinc : Inc (keysP ps)) (hl : ps.length ≤ 1000000) : Fun Try.prog 76 [.sl 2 (encP ps), .v (.int .i64 t), .fn 77 []] (.tup [.v (.int .i64 (lbI (keysP ps) t)), .v (.bool (inI (keysP ps) t))]) := by
  have hk1 := encP_len ps
  have hk2 := keysP_len ps
  refine Fun.enter (n := 49) (rs := [.tmp 6, .tmp 7]) Try.func76 rfl Try.ntmps76 Try.results76 rfl (fun w F => ?_)
  refine TC.seq ?_
  refine TC.region ?_
  refine TL.run1 (pure_assign rfl) rfl ?_
  refine TL.run1 (pure_assign rfl) rfl ?_
  refine TL.nil' ?_
  refine TC.seq ?_
  refine TC.region ?_
  refine TL.run1 (pure_move rfl) rfl ?_
  first | refine TL.run1 (pure_len Ty.sl27 rfl) rfl ?_ | refine TL.run1 (pure_len_row Ty.sl27 rfl (by repeat (first | exact List.Mem.head _ | apply List.Mem.tail))) rfl ?_ | refine TL.run1 (pure_len_nil Ty.sl27 rfl) rfl ?_
  refine TL.run1 (pure_assign rfl) rfl ?_
  refine TL.nil' ?_
  refine TC.seq ?_
  refine TC.region ?_
  refine TL.run1 (pure_move rfl) rfl ?_
  refine TL.run1 (pure_assign rfl) rfl ?_
  refine TL.run1 (pure_assign rfl) rfl ?_
  refine TL.nil' ?_
  refine TC.seq ?_
  refine TC.block ?_
  refine TC.loopX (X := Int × Int) (fun x => [(0, .sl 2 (encP ps)), (1, .v (.int .i64 t)), (2, .fn 77 []), (8, .v (.int .i64 (encP ps).length)), (9, .v (.int .i64 x.1)), (10, .v (.int .i64 x.2))]) (fun _ => []) (fun x => 0 ≤ x.1 ∧ x.1 ≤ x.2 ∧ x.2 ≤ (keysP ps).length ∧ (∀ j : Nat, j < x.1.toNat → kAt (keysP ps) j < t) ∧ (∀ j : Nat, x.2.toNat ≤ j → j < (keysP ps).length → t ≤ kAt (keysP ps) j)) (fun x => (x.2 - x.1).toNat) (0, (encP ps).length) ⟨by skip; repeat (first | exact Agree.nil | refine Agree.cons rfl ?_), by skip; repeat (first | exact List.nil_sublist _ | exact List.Sublist.refl _ | apply List.Sublist.cons_cons | apply List.Sublist.cons)⟩ ?_ ?_
  · skip
    exact ⟨by omega, by omega, by omega, fun j hj => by simp at hj, fun j h1 h2 => by simp at h1; omega⟩
  rintro ⟨i, j⟩ ⟨h0, h1, h2, h3, h4⟩
  dsimp only at h0 h1 h2 h3 h4
  refine TC.seq ?_
  refine TC.seq ?_
  refine TC.region ?_
  refine TL.run1 (pure_move rfl) rfl ?_
  refine TL.run1 (pure_move rfl) rfl ?_
  refine TL.run1 (pure_lss rfl rfl) rfl ?_
  refine TL.nil' ?_
  first | refine TC.condD rfl (fun hc17 => ?_) (fun hc17 => ?_) | refine TC.condN rfl (fun hc17 => ?_) (fun hc17 => ?_) | refine TC.cond rfl (fun hc17 => ?_) (fun hc17 => ?_)
  · try dsimp only at hc17
    refine TC.skip' ?_
    refine TC.block ?_
    refine TC.seq ?_
    refine TC.region ?_
    refine TL.run1 (pure_move rfl) rfl ?_
    refine TL.run1 (pure_move rfl) rfl ?_
    refine TL.run1 (pure_add rfl rfl (mkI64 (by omega) (by omega))) rfl ?_
    refine TL.run1 (pure_conv Try.underlying3 Try.underlying143 rfl (fit_u64 (by omega) (by omega))) rfl ?_
    refine TL.run1 (pure_shrl (m := 2) (by rfl) rfl rfl (by decide) (by decide)) rfl ?_
    refine TL.run1 (pure_conv Try.underlying143 Try.underlying3 rfl (fit_i64 (by omega) (by omega))) rfl ?_
    refine TL.run1 (pure_assign rfl) rfl ?_
    refine TL.nil' ?_
    refine TC.seq ?_
    have hb : 0 ≤ (i + j) / 2 ∧ (i + j) / 2 < j ∧ i ≤ (i + j) / 2 := by omega
    have hrow := encP_get ps ((i + j) / 2) (by omega) (by omega)
    have hka := kAt_keysP ps (((i + j) / 2)).toNat (by omega)
    rw [show (((((i + j) / 2)).toNat : Nat) : Int) = ((i + j) / 2) by omega] at hka
    rw [← hka] at hrow
    refine TC.region ?_
    refine TL.run1 (pure_move rfl) rfl ?_
    refine TL.run1 (pure_move rfl) rfl ?_
    refine TL.run1 (pure_move rfl) rfl ?_
    refine TL.run1 (pure_indexAddr Ty.sl27 rfl rfl (by omega) (by assumption) (List.cons_ne_nil _ _)) rfl ?_
    first | refine TL.run1 (pure_load Ty.agg77 rfl (.succ (.succ (.zero _)))) rfl ?_ | refine TL.run1 (pure_load_own Ty.agg77 rfl (by repeat (first | exact List.Mem.head _ | apply List.Mem.tail)) (by repeat (first | exact DropR.zero _ | apply DropR.succ)) (.succ (.succ (.zero _)))) rfl ?_
    refine TL.run1 (pure_move rfl) rfl ?_
    refine TL.run1 (pure_callv rfl (search1_spec _ _ _) (.cons rfl (.cons rfl .nil)) Try.call77) rfl ?_
    refine TL.run1 (pure_lss rfl rfl) rfl ?_
    refine TL.nil' ?_
    first | refine TC.condD rfl (fun hc31 => ?_) (fun hc31 => ?_) | refine TC.condN rfl (fun hc31 => ?_) (fun hc31 => ?_) | refine TC.cond rfl (fun hc31 => ?_) (fun hc31 => ?_)
    · try dsimp only at hc31
      have hm : ((i + j) / 2).toNat < (keysP ps).length := by omega
      refine TC.region ?_
      refine TL.run1 (pure_move rfl) rfl ?_
      refine TL.run1 (pure_add rfl rfl (mkI64 (by omega) (by omega))) rfl ?_
      refine TL.run1 (pure_assign rfl) rfl ?_
      refine TL.nil ?_
      refine block_normal ?_
      first
        | (refine loop_next ((i + j) / 2 + 1, j) ⟨by repeat (first | exact Agree.nil | refine Agree.cons rfl ?_), by repeat (first | exact List.nil_sublist _ | exact List.Sublist.refl _ | apply List.Sublist.cons_cons | apply List.Sublist.cons)⟩ ⟨by omega, by omega, by omega, fun m hm1 => ?_, h4⟩ (by dsimp only; omega)
           have hq := (cmpI_neg _ _).1 hc31
           try rw [← hka] at hq
           rcases Nat.lt_or_ge m ((i + j) / 2).toNat with h | h
           · exact Int.lt_trans (hinc.lt h hm) hq
           · rw [show m = ((i + j) / 2).toNat by dsimp only at hm1; omega]; exact hq)
        | (refine loop_next (i, (i + j) / 2) ⟨by repeat (first | exact Agree.nil | refine Agree.cons rfl ?_), by repeat (first | exact List.nil_sublist _ | exact List.Sublist.refl _ | apply List.Sublist.cons_cons | apply List.Sublist.cons)⟩ ⟨by omega, by omega, by omega, h3, fun m hm1 hm2 => ?_⟩ (by dsimp only; omega)
           have hq : t ≤ kAt (keysP ps) ((i + j) / 2).toNat := by (have := mt (cmpI_neg _ _).2 hc31; (try rw [← hka] at this); omega)
           rcases Nat.eq_or_lt_of_le hm1 with h | h
           · rw [← h]; exact hq
           · exact Int.le_trans hq (Int.le_of_lt (hinc.lt h hm2)))
    · try dsimp only at hc31
      have hm : ((i + j) / 2).toNat < (keysP ps).length := by omega
      refine TC.region ?_
      refine TL.run1 (pure_move rfl) rfl ?_
      refine TL.run1 (pure_assign rfl) rfl ?_
      refine TL.nil ?_
      refine block_normal ?_
      first
        | (refine loop_next ((i + j) / 2 + 1, j) ⟨by repeat (first | exact Agree.nil | refine Agree.cons rfl ?_), by repeat (first | exact List.nil_sublist _ | exact List.Sublist.refl _ | apply List.Sublist.cons_cons | apply List.Sublist.cons)⟩ ⟨by omega, by omega, by omega, fun m hm1 => ?_, h4⟩ (by dsimp only; omega)
           have hq := (cmpI_neg _ _).1 hc31
           try rw [← hka] at hq
           rcases Nat.lt_or_ge m ((i + j) / 2).toNat with h | h
           · exact Int.lt_trans (hinc.lt h hm) hq
           · rw [show m = ((i + j) / 2).toNat by dsimp only at hm1; omega]; exact hq)
        | (refine loop_next (i, (i + j) / 2) ⟨by repeat (first | exact Agree.nil | refine Agree.cons rfl ?_), by repeat (first | exact List.nil_sublist _ | exact List.Sublist.refl _ | apply List.Sublist.cons_cons | apply List.Sublist.cons)⟩ ⟨by omega, by omega, by omega, h3, fun m hm1 hm2 => ?_⟩ (by dsimp only; omega)
           have hq : t ≤ kAt (keysP ps) ((i + j) / 2).toNat := by (have := mt (cmpI_neg _ _).2 hc31; (try rw [← hka] at this); omega)
           rcases Nat.eq_or_lt_of_le hm1 with h | h
           · rw [← h]; exact hq
           · exact Int.le_trans hq (Int.le_of_lt (hinc.lt h hm2)))
  · try dsimp only at hc17
    have hij : i = j := by omega
    subst hij
    have hlb : lbI (keysP ps) t = i.toNat := lbI_eq _ _ _ (by omega) h3 (fun hl => h4 _ (by omega) hl)
    refine TC.exit ?_
    refine then_exit ?_
    refine loop_exit ?_
    refine block_here ?_
    refine then_normal ?_
    refine TC.seq ?_
    refine TC.region ?_
    refine TL.run1 (pure_move rfl) rfl ?_
    refine TL.run1 (pure_move rfl) rfl ?_
    refine TL.run1 (pure_move rfl) rfl ?_
    refine TL.run1 (pure_lss rfl rfl) rfl ?_
    refine TL.run1 (pure_move rfl) rfl ?_
    first | refine TL.splitP 39 rfl (fun hg39 => ?_) (fun hg39 => ?_) | refine TL.split 39 rfl (fun hg39 => ?_) (fun hg39 => ?_)
    · try dsimp only at hg39
      have hrow := encP_get ps i (by omega) (by omega)
      have hka := kAt_keysP ps (i).toNat (by omega)
      rw [show (((i).toNat : Nat) : Int) = i by omega] at hka
      rw [← hka] at hrow
      refine TL.runG rfl rfl (pure_move rfl) rfl ?_
      refine TL.runG rfl rfl (pure_move rfl) rfl ?_
      refine TL.runG rfl rfl (pure_move rfl) rfl ?_
      refine TL.runG rfl rfl (pure_indexAddr Ty.sl27 rfl rfl (by omega) (by assumption) (List.cons_ne_nil _ _)) rfl ?_
      first | refine TL.runG rfl rfl (pure_load Ty.agg77 rfl (.succ (.succ (.zero _)))) rfl ?_ | refine TL.runG rfl rfl (pure_load_own Ty.agg77 rfl (by repeat (first | exact List.Mem.head _ | apply List.Mem.tail)) (by repeat (first | exact DropR.zero _ | apply DropR.succ)) (.succ (.succ (.zero _)))) rfl ?_
      refine TL.runG rfl rfl (pure_move rfl) rfl ?_
      refine TL.runG rfl rfl (pure_callv rfl (search1_spec _ _ _) (.cons rfl (.cons rfl .nil)) Try.call77) rfl ?_
      refine TL.runG rfl rfl (pure_eql rfl rfl) rfl ?_
      refine TL.run1 (pure_pick_true rfl rfl) rfl ?_
      refine TL.run1 (pure_assign rfl) rfl ?_
      refine TL.run1 (pure_assign rfl) rfl ?_
      refine TL.nil' ?_
      refine TC.ret ?_
      refine ret2 (.inl rfl) rfl rfl ?_
      rw [hlb, show ((i.toNat : Nat) : Int) = i by omega]; unfold inI; rw [hlb]
      by_cases hx : i.toNat < (keysP ps).length
      · try rw [← hka]
        simp [cmpI_zero, hx]
        try (exfalso; omega)
      · simp [hx]
        try (exfalso; omega)
    · try dsimp only at hg39
      refine TL.passG rfl rfl rfl rfl ?_
      refine TL.passG rfl rfl rfl rfl ?_
      refine TL.passG rfl rfl rfl rfl ?_
      refine TL.passG rfl rfl rfl rfl ?_
      refine TL.passG rfl rfl rfl rfl ?_
      refine TL.passG rfl rfl rfl rfl ?_
      refine TL.passG rfl rfl rfl rfl ?_
      refine TL.passG rfl rfl rfl rfl ?_
      refine TL.run1 (pure_pick_false rfl rfl) rfl ?_
      refine TL.run1 (pure_assign rfl) rfl ?_
      refine TL.run1 (pure_assign rfl) rfl ?_
      refine TL.nil' ?_
      refine TC.ret ?_
      refine ret2 (.inl rfl) rfl rfl ?_
      rw [hlb, show ((i.toNat : Nat) : Int) = i by omega]; unfold inI; rw [hlb]
      by_cases hx : i.toNat < (keysP ps).length
      · try rw [← hka]
        simp [cmpI_zero, hx]
        try (exfalso; omega)
      · simp [hx]
        try (exfalso; omega)
set_option maxRecDepth 100000 in
theorem searchP_spec (ps : List (Int × Int)) (t : Int) (hinc : Inc (keysP ps)) (hl : ps.length ≤ 1000000) : Fun Try.prog 66 [.sl 2 (encP ps), .v (.int .i64 t)] (.tup [.v (.int .i64 (lbI (keysP ps) t)), .v (.bool (inI (keysP ps) t))]) := by
  refine Fun.enter (n := 11) (rs := [.tmp 4, .tmp 5]) Try.func66 rfl Try.ntmps66 Try.results66 rfl (fun w F => ?_)
  refine TC.seq ?_
  refine TC.region ?_
  refine TL.run1 (pure_assign rfl) rfl ?_
  refine TL.run1 (pure_assign rfl) rfl ?_
  refine TL.nil' ?_
  refine TC.seq ?_
  refine TC.region ?_
  refine TL.run1 (pure_move rfl) rfl ?_
  refine TL.run1 (pure_move rfl) rfl ?_
  refine TL.run1 (pure_call (bsP_spec _ _ hinc hl) (.cons rfl (.cons rfl (.cons rfl .nil))) Try.call76) rfl ?_
  refine TL.run1 (pure_extract rfl rfl) rfl ?_
  refine TL.run1 (pure_extract rfl rfl) rfl ?_
  refine TL.run1 (pure_assign rfl) rfl ?_
  refine TL.run1 (pure_assign rfl) rfl ?_
  refine TL.nil' ?_
  refine TC.ret ?_
  exact ret2 (.inl rfl) rfl rfl rfl
set_option maxRecDepth 100000 in
theorem getPr_spec (ps : List (Int × Int)) (t : Int) (hinc : Inc (keysP ps)) (hl : ps.length ≤ 1000000) : Fun Try.prog 61 [.sl 2 (encP ps), .v (.int .i64 t)] (.tup [.v (.int .i64 (getP ps t 0)), .v (.bool (inI (keysP ps) t))]) := by
  refine Fun.enter (n := 21) (rs := [.tmp 4, .tmp 5]) Try.func61 rfl Try.ntmps61 Try.results61 rfl (fun w F => ?_)
  refine TC.seq ?_
  refine TC.region ?_
  refine TL.run1 (pure_assign rfl) rfl ?_
  refine TL.run1 (pure_assign rfl) rfl ?_
  refine TL.nil' ?_
  refine TC.seq ?_
  refine TC.region ?_
  refine TL.run1 (pure_move rfl) rfl ?_
  refine TL.run1 (pure_move rfl) rfl ?_
  refine TL.run1 (pure_call (searchP_spec _ _ hinc hl) (.cons rfl (.cons rfl .nil)) Try.call66) rfl ?_
  refine TL.run1 (pure_move rfl) rfl ?_
  refine TL.run1 (pure_extract rfl rfl) rfl ?_
  refine TL.run1 (pure_extract rfl rfl) rfl ?_
  refine TL.run1 (pure_assign rfl) rfl ?_
  refine TL.run1 (pure_assign rfl) rfl ?_
  refine TL.nil' ?_
  refine TC.seq ?_
  refine TC.seq ?_
  refine TC.region ?_
  refine TL.run1 (pure_move rfl) rfl ?_
  refine TL.run1 (pure_not rfl) rfl ?_
  refine TL.nil' ?_
  first | refine TC.condD rfl (fun hc15 => ?_) (fun hc15 => ?_) | refine TC.condN rfl (fun hc15 => ?_) (fun hc15 => ?_) | refine TC.cond rfl (fun hc15 => ?_) (fun hc15 => ?_)
  · try dsimp only at hc15
    have hin : inI (keysP ps) t = false := decide_eq_false hc15
    refine TC.seq ?_
    refine TC.region ?_
    refine TL.run1 (pure_assign rfl) rfl ?_
    refine TL.run1 (pure_assign rfl) rfl ?_
    refine TL.nil' ?_
    refine TC.ret ?_
    refine then_ret ?_
    exact ret2 (.inl rfl) rfl rfl (by rw [getP_lb ps t 0 hinc, hin]; rfl)
  · try dsimp only at hc15
    have hin : inI (keysP ps) t = true := decide_eq_true hc15
    have hlt : lbI (keysP ps) t < ps.length := by have := hin; unfold inI at this; simp [keysP_len] at this; exact this.1
    have hrow := encP_get ps (lbI (keysP ps) t) (by omega) (by omega)
    refine TC.skip' ?_
    refine TC.seq ?_
    refine TC.region ?_
    refine TL.run1 (pure_move rfl) rfl ?_
    refine TL.run1 (pure_move rfl) rfl ?_
    refine TL.run1 (pure_indexAddr Ty.sl27 rfl rfl (by omega) (by assumption) (List.cons_ne_nil _ _)) rfl ?_
    first | refine TL.run1 (pure_fieldAddr Ty.f77_1 rfl (.succ (.zero _)) (List.cons_ne_nil _ _)) rfl ?_ | refine TL.run1 (pure_fieldAddr_own Ty.f77_1 rfl) rfl ?_
    first | refine TL.run1 (pure_load1 Ty.one3 rfl) rfl ?_ | refine TL.run1 (pure_load1_own Ty.one3 rfl (by repeat (first | exact List.Mem.head _ | apply List.Mem.tail)) (by repeat (first | exact DropR.zero _ | apply DropR.succ))) rfl ?_
    refine TL.run1 (pure_assign rfl) rfl ?_
    refine TL.run1 (pure_assign rfl) rfl ?_
    refine TL.nil' ?_
    refine TC.ret ?_
    exact ret2 (.inl rfl) rfl rfl (by rw [getP_lb ps t 0 hinc, hin]; rfl)
structure KeyE where
  num : Int
  group : Int
  low : Int
  high : Int
  std : Int
  name : ByteArray
def encK1 (k : KeyE) : List D := [.v (.int .i64 k.num), .v (.int .i64 k.group), .v (.int .i64 k.low), .v (.int .i64 k.high), .v (.int .i64 k.std), .v (.string k.name)]
def encK (t : List KeyE) : List (List D) := t.map encK1
def keysK (t : List KeyE) : List Int := t.map (·.num)
def kE0 : KeyE := ⟨0, 0, 0, 0, 0, ⟨#[]⟩⟩
def eAt (t : List KeyE) (i : Int) : KeyE := t.getD i.toNat kE0
theorem encK_len (t : List KeyE) : (encK t).length = t.length := by simp [encK]
theorem keysK_len (t : List KeyE) : (keysK t).length = t.length := by simp [keysK]
theorem encK_get (t : List KeyE) (i : Int) (h0 : 0 ≤ i) (h1 : i < t.length) : (encK t)[i.toNat]? = some (encK1 (eAt t i)) := by
  have : i.toNat < t.length := by omega
  simp [encK, eAt, this]
theorem kAt_keysK (t : List KeyE) (i : Nat) (h : i < t.length) : kAt (keysK t) i = (eAt t i).num := by simp [kAt, keysK, eAt, h]
def tableK : List KeyE := [
  ⟨1, 1, 0, 1073741824, 0, ⟨#[99, 104, 97, 114, 97, 99, 116, 101, 114, 45, 115, 116, 121, 108, 101]⟩⟩,
  ⟨2, 1, 0, 1, 0, ⟨#[98, 111, 108, 100]⟩⟩,
  ⟨3, 1, 0, 1, 0, ⟨#[105, 116, 97, 108, 105, 99]⟩⟩,
  ⟨4, 1, 0, 3, 0, ⟨#[117, 110, 100, 101, 114, 108, 105, 110, 101]⟩⟩,
  ⟨5, 1, 2, 1638, 22, ⟨#[115, 105, 122, 101]⟩⟩,
  ⟨6, 1, 0, 16777215, 0, ⟨#[99, 111, 108, 111, 114]⟩⟩,
  ⟨7, 1, 0, 63, 0, ⟨#[102, 111, 110, 116]⟩⟩,
  ⟨8, 1, 0, 255, 0, ⟨#[108, 97, 110, 103, 117, 97, 103, 101]⟩⟩,
  ⟨9, 1, (-400), 400, 0, ⟨#[114, 97, 105, 115, 101]⟩⟩,
  ⟨10, 1, 0, 1, 0, ⟨#[104, 105, 100, 100, 101, 110]⟩⟩,
  ⟨20, 2, 0, 1073741824, 0, ⟨#[112, 97, 114, 97, 103, 114, 97, 112, 104, 45, 115, 116, 121, 108, 101]⟩⟩,
  ⟨21, 2, 0, 3, 0, ⟨#[97, 108, 105, 103, 110]⟩⟩,
  ⟨22, 2, (-31680), 31680, 0, ⟨#[108, 101, 102, 116]⟩⟩,
  ⟨23, 2, (-31680), 31680, 0, ⟨#[114, 105, 103, 104, 116]⟩⟩,
  ⟨24, 2, (-31680), 31680, 0, ⟨#[102, 105, 114, 115, 116]⟩⟩,
  ⟨25, 2, 0, 31680, 0, ⟨#[98, 101, 102, 111, 114, 101]⟩⟩,
  ⟨26, 2, 0, 31680, 0, ⟨#[97, 102, 116, 101, 114]⟩⟩,
  ⟨27, 2, 0, 31680, 0, ⟨#[108, 101, 97, 100, 105, 110, 103]⟩⟩,
  ⟨28, 2, 0, 1, 0, ⟨#[107, 101, 101, 112, 45, 110, 101, 120, 116]⟩⟩,
  ⟨29, 2, 0, 1, 0, ⟨#[107, 101, 101, 112, 45, 108, 105, 110, 101, 115]⟩⟩,
  ⟨30, 2, 0, 1, 1, ⟨#[119, 105, 100, 111, 119]⟩⟩,
  ⟨31, 2, 0, 1, 0, ⟨#[112, 97, 103, 101, 45, 98, 101, 102, 111, 114, 101]⟩⟩,
  ⟨32, 2, 0, 9, 0, ⟨#[111, 117, 116, 108, 105, 110, 101]⟩⟩,
  ⟨33, 2, 0, 1073741824, 0, ⟨#[108, 105, 115, 116]⟩⟩,
  ⟨34, 2, 1, 9, 1, ⟨#[108, 101, 118, 101, 108]⟩⟩,
  ⟨35, 2, 0, 32767, 0, ⟨#[114, 101, 115, 116, 97, 114, 116]⟩⟩,
  ⟨36, 2, 1, 31680, 720, ⟨#[116, 97, 98, 45, 115, 116, 111, 112]⟩⟩,
  ⟨37, 2, 0, 1, 0, ⟨#[104, 121, 112, 104, 101, 110, 97, 116, 101]⟩⟩,
  ⟨40, 3, 720, 31680, 12240, ⟨#[112, 97, 103, 101, 45, 119, 105, 100, 116, 104]⟩⟩,
  ⟨41, 3, 720, 31680, 15840, ⟨#[112, 97, 103, 101, 45, 104, 101, 105, 103, 104, 116]⟩⟩,
  ⟨42, 3, 0, 31680, 1440, ⟨#[116, 111, 112]⟩⟩,
  ⟨43, 3, 0, 31680, 1440, ⟨#[98, 111, 116, 116, 111, 109]⟩⟩,
  ⟨44, 3, 0, 31680, 1440, ⟨#[105, 110, 110, 101, 114]⟩⟩,
  ⟨45, 3, 0, 31680, 1440, ⟨#[111, 117, 116, 101, 114]⟩⟩,
  ⟨46, 3, 0, 32767, 0, ⟨#[102, 105, 114, 115, 116, 45, 112, 97, 103, 101]⟩⟩,
  ⟨47, 3, 1, 6, 1, ⟨#[112, 97, 103, 101, 45, 102, 111, 114, 109, 97, 116]⟩⟩,
  ⟨50, 4, 0, 1, 0, ⟨#[104, 101, 97, 100, 101, 114]⟩⟩,
  ⟨51, 4, 0, 1, 0, ⟨#[99, 97, 110, 116, 45, 115, 112, 108, 105, 116]⟩⟩,
  ⟨52, 4, 0, 31680, 0, ⟨#[114, 111, 119, 45, 104, 101, 105, 103, 104, 116]⟩⟩,
  ⟨60, 5, 1, 32, 1, ⟨#[99, 111, 108, 117, 109, 110, 45, 115, 112, 97, 110]⟩⟩,
  ⟨61, 5, 0, 2, 0, ⟨#[118, 101, 114, 116, 105, 99, 97, 108, 45, 109, 101, 114, 103, 101]⟩⟩,
  ⟨62, 5, 0, 31680, 0, ⟨#[99, 101, 108, 108, 45, 119, 105, 100, 116, 104]⟩⟩,
  ⟨63, 5, 0, 16777215, 16777215, ⟨#[115, 104, 97, 100, 101]⟩⟩,
  ⟨70, 6, 0, 31680, 0, ⟨#[116, 97, 98, 108, 101, 45, 119, 105, 100, 116, 104]⟩⟩,
  ⟨71, 6, 0, 2, 0, ⟨#[116, 97, 98, 108, 101, 45, 97, 108, 105, 103, 110]⟩⟩]
theorem tableK_len : tableK.length = 45 := rfl
theorem tableK_inc : Inc (keysK tableK) := by unfold Inc keysK tableK; simp only [List.map_cons, List.map_nil]; decide
set_option maxRecDepth 100000 in
theorem table_spec  : Fun Try.prog 82 [] (.sl 6 (encK tableK)) := by
  refine Fun.enter (n := 47) (rs := [.tmp 0]) Try.func82 rfl Try.ntmps82 Try.results82 rfl (fun w F => ?_)
  refine TC.seq ?_
  refine TC.region ?_
  refine TL.run1 (pure_assign rfl) rfl ?_
  refine TL.nil' ?_
  refine TC.seq ?_
  refine TC.region ?_
  refine TL.run1 (pure_build Ty.pl124 Ty.zero124 (.cons rfl rfl (.one rfl) rfl (.here (.nil _)) (.cons rfl rfl (.one rfl) rfl (.skip (.here (.nil _))) (.cons rfl rfl (.one rfl) rfl (.skip (.skip (.here (.nil _)))) (.cons rfl rfl (.one rfl) rfl (.skip (.skip (.skip (.here (.nil _))))) (.cons rfl rfl (.one rfl) rfl (.skip (.skip (.skip (.skip (.here (.nil _)))))) (.cons rfl rfl (.one rfl) rfl (.skip (.skip (.skip (.skip (.skip (.here (.nil _))))))) (.nil _)))))))) rfl ?_
  refine TL.run1 (pure_build Ty.pl124 Ty.zero124 (.cons rfl rfl (.one rfl) rfl (.here (.nil _)) (.cons rfl rfl (.one rfl) rfl (.skip (.here (.nil _))) (.cons rfl rfl (.one rfl) rfl (.skip (.skip (.here (.nil _)))) (.cons rfl rfl (.one rfl) rfl (.skip (.skip (.skip (.here (.nil _))))) (.cons rfl rfl (.one rfl) rfl (.skip (.skip (.skip (.skip (.here (.nil _)))))) (.cons rfl rfl (.one rfl) rfl (.skip (.skip (.skip (.skip (.skip (.here (.nil _))))))) (.nil _)))))))) rfl ?_
  refine TL.run1 (pure_build Ty.pl124 Ty.zero124 (.cons rfl rfl (.one rfl) rfl (.here (.nil _)) (.cons rfl rfl (.one rfl) rfl (.skip (.here (.nil _))) (.cons rfl rfl (.one rfl) rfl (.skip (.skip (.here (.nil _)))) (.cons rfl rfl (.one rfl) rfl (.skip (.skip (.skip (.here (.nil _))))) (.cons rfl rfl (.one rfl) rfl (.skip (.skip (.skip (.skip (.here (.nil _)))))) (.cons rfl rfl (.one rfl) rfl (.skip (.skip (.skip (.skip (.skip (.here (.nil _))))))) (.nil _)))))))) rfl ?_
  refine TL.run1 (pure_build Ty.pl124 Ty.zero124 (.cons rfl rfl (.one rfl) rfl (.here (.nil _)) (.cons rfl rfl (.one rfl) rfl (.skip (.here (.nil _))) (.cons rfl rfl (.one rfl) rfl (.skip (.skip (.here (.nil _)))) (.cons rfl rfl (.one rfl) rfl (.skip (.skip (.skip (.here (.nil _))))) (.cons rfl rfl (.one rfl) rfl (.skip (.skip (.skip (.skip (.here (.nil _)))))) (.cons rfl rfl (.one rfl) rfl (.skip (.skip (.skip (.skip (.skip (.here (.nil _))))))) (.nil _)))))))) rfl ?_
  refine TL.run1 (pure_build Ty.pl124 Ty.zero124 (.cons rfl rfl (.one rfl) rfl (.here (.nil _)) (.cons rfl rfl (.one rfl) rfl (.skip (.here (.nil _))) (.cons rfl rfl (.one rfl) rfl (.skip (.skip (.here (.nil _)))) (.cons rfl rfl (.one rfl) rfl (.skip (.skip (.skip (.here (.nil _))))) (.cons rfl rfl (.one rfl) rfl (.skip (.skip (.skip (.skip (.here (.nil _)))))) (.cons rfl rfl (.one rfl) rfl (.skip (.skip (.skip (.skip (.skip (.here (.nil _))))))) (.nil _)))))))) rfl ?_
  refine TL.run1 (pure_build Ty.pl124 Ty.zero124 (.cons rfl rfl (.one rfl) rfl (.here (.nil _)) (.cons rfl rfl (.one rfl) rfl (.skip (.here (.nil _))) (.cons rfl rfl (.one rfl) rfl (.skip (.skip (.here (.nil _)))) (.cons rfl rfl (.one rfl) rfl (.skip (.skip (.skip (.here (.nil _))))) (.cons rfl rfl (.one rfl) rfl (.skip (.skip (.skip (.skip (.here (.nil _)))))) (.cons rfl rfl (.one rfl) rfl (.skip (.skip (.skip (.skip (.skip (.here (.nil _))))))) (.nil _)))))))) rfl ?_
  refine TL.run1 (pure_build Ty.pl124 Ty.zero124 (.cons rfl rfl (.one rfl) rfl (.here (.nil _)) (.cons rfl rfl (.one rfl) rfl (.skip (.here (.nil _))) (.cons rfl rfl (.one rfl) rfl (.skip (.skip (.here (.nil _)))) (.cons rfl rfl (.one rfl) rfl (.skip (.skip (.skip (.here (.nil _))))) (.cons rfl rfl (.one rfl) rfl (.skip (.skip (.skip (.skip (.here (.nil _)))))) (.cons rfl rfl (.one rfl) rfl (.skip (.skip (.skip (.skip (.skip (.here (.nil _))))))) (.nil _)))))))) rfl ?_
  refine TL.run1 (pure_build Ty.pl124 Ty.zero124 (.cons rfl rfl (.one rfl) rfl (.here (.nil _)) (.cons rfl rfl (.one rfl) rfl (.skip (.here (.nil _))) (.cons rfl rfl (.one rfl) rfl (.skip (.skip (.here (.nil _)))) (.cons rfl rfl (.one rfl) rfl (.skip (.skip (.skip (.here (.nil _))))) (.cons rfl rfl (.one rfl) rfl (.skip (.skip (.skip (.skip (.here (.nil _)))))) (.cons rfl rfl (.one rfl) rfl (.skip (.skip (.skip (.skip (.skip (.here (.nil _))))))) (.nil _)))))))) rfl ?_
  refine TL.run1 (pure_build Ty.pl124 Ty.zero124 (.cons rfl rfl (.one rfl) rfl (.here (.nil _)) (.cons rfl rfl (.one rfl) rfl (.skip (.here (.nil _))) (.cons rfl rfl (.one rfl) rfl (.skip (.skip (.here (.nil _)))) (.cons rfl rfl (.one rfl) rfl (.skip (.skip (.skip (.here (.nil _))))) (.cons rfl rfl (.one rfl) rfl (.skip (.skip (.skip (.skip (.here (.nil _)))))) (.cons rfl rfl (.one rfl) rfl (.skip (.skip (.skip (.skip (.skip (.here (.nil _))))))) (.nil _)))))))) rfl ?_
  refine TL.run1 (pure_build Ty.pl124 Ty.zero124 (.cons rfl rfl (.one rfl) rfl (.here (.nil _)) (.cons rfl rfl (.one rfl) rfl (.skip (.here (.nil _))) (.cons rfl rfl (.one rfl) rfl (.skip (.skip (.here (.nil _)))) (.cons rfl rfl (.one rfl) rfl (.skip (.skip (.skip (.here (.nil _))))) (.cons rfl rfl (.one rfl) rfl (.skip (.skip (.skip (.skip (.here (.nil _)))))) (.cons rfl rfl (.one rfl) rfl (.skip (.skip (.skip (.skip (.skip (.here (.nil _))))))) (.nil _)))))))) rfl ?_
  refine TL.run1 (pure_build Ty.pl124 Ty.zero124 (.cons rfl rfl (.one rfl) rfl (.here (.nil _)) (.cons rfl rfl (.one rfl) rfl (.skip (.here (.nil _))) (.cons rfl rfl (.one rfl) rfl (.skip (.skip (.here (.nil _)))) (.cons rfl rfl (.one rfl) rfl (.skip (.skip (.skip (.here (.nil _))))) (.cons rfl rfl (.one rfl) rfl (.skip (.skip (.skip (.skip (.here (.nil _)))))) (.cons rfl rfl (.one rfl) rfl (.skip (.skip (.skip (.skip (.skip (.here (.nil _))))))) (.nil _)))))))) rfl ?_
  refine TL.run1 (pure_build Ty.pl124 Ty.zero124 (.cons rfl rfl (.one rfl) rfl (.here (.nil _)) (.cons rfl rfl (.one rfl) rfl (.skip (.here (.nil _))) (.cons rfl rfl (.one rfl) rfl (.skip (.skip (.here (.nil _)))) (.cons rfl rfl (.one rfl) rfl (.skip (.skip (.skip (.here (.nil _))))) (.cons rfl rfl (.one rfl) rfl (.skip (.skip (.skip (.skip (.here (.nil _)))))) (.cons rfl rfl (.one rfl) rfl (.skip (.skip (.skip (.skip (.skip (.here (.nil _))))))) (.nil _)))))))) rfl ?_
  refine TL.run1 (pure_build Ty.pl124 Ty.zero124 (.cons rfl rfl (.one rfl) rfl (.here (.nil _)) (.cons rfl rfl (.one rfl) rfl (.skip (.here (.nil _))) (.cons rfl rfl (.one rfl) rfl (.skip (.skip (.here (.nil _)))) (.cons rfl rfl (.one rfl) rfl (.skip (.skip (.skip (.here (.nil _))))) (.cons rfl rfl (.one rfl) rfl (.skip (.skip (.skip (.skip (.here (.nil _)))))) (.cons rfl rfl (.one rfl) rfl (.skip (.skip (.skip (.skip (.skip (.here (.nil _))))))) (.nil _)))))))) rfl ?_
  refine TL.run1 (pure_build Ty.pl124 Ty.zero124 (.cons rfl rfl (.one rfl) rfl (.here (.nil _)) (.cons rfl rfl (.one rfl) rfl (.skip (.here (.nil _))) (.cons rfl rfl (.one rfl) rfl (.skip (.skip (.here (.nil _)))) (.cons rfl rfl (.one rfl) rfl (.skip (.skip (.skip (.here (.nil _))))) (.cons rfl rfl (.one rfl) rfl (.skip (.skip (.skip (.skip (.here (.nil _)))))) (.cons rfl rfl (.one rfl) rfl (.skip (.skip (.skip (.skip (.skip (.here (.nil _))))))) (.nil _)))))))) rfl ?_
  refine TL.run1 (pure_build Ty.pl124 Ty.zero124 (.cons rfl rfl (.one rfl) rfl (.here (.nil _)) (.cons rfl rfl (.one rfl) rfl (.skip (.here (.nil _))) (.cons rfl rfl (.one rfl) rfl (.skip (.skip (.here (.nil _)))) (.cons rfl rfl (.one rfl) rfl (.skip (.skip (.skip (.here (.nil _))))) (.cons rfl rfl (.one rfl) rfl (.skip (.skip (.skip (.skip (.here (.nil _)))))) (.cons rfl rfl (.one rfl) rfl (.skip (.skip (.skip (.skip (.skip (.here (.nil _))))))) (.nil _)))))))) rfl ?_
  refine TL.run1 (pure_build Ty.pl124 Ty.zero124 (.cons rfl rfl (.one rfl) rfl (.here (.nil _)) (.cons rfl rfl (.one rfl) rfl (.skip (.here (.nil _))) (.cons rfl rfl (.one rfl) rfl (.skip (.skip (.here (.nil _)))) (.cons rfl rfl (.one rfl) rfl (.skip (.skip (.skip (.here (.nil _))))) (.cons rfl rfl (.one rfl) rfl (.skip (.skip (.skip (.skip (.here (.nil _)))))) (.cons rfl rfl (.one rfl) rfl (.skip (.skip (.skip (.skip (.skip (.here (.nil _))))))) (.nil _)))))))) rfl ?_
  refine TL.run1 (pure_build Ty.pl124 Ty.zero124 (.cons rfl rfl (.one rfl) rfl (.here (.nil _)) (.cons rfl rfl (.one rfl) rfl (.skip (.here (.nil _))) (.cons rfl rfl (.one rfl) rfl (.skip (.skip (.here (.nil _)))) (.cons rfl rfl (.one rfl) rfl (.skip (.skip (.skip (.here (.nil _))))) (.cons rfl rfl (.one rfl) rfl (.skip (.skip (.skip (.skip (.here (.nil _)))))) (.cons rfl rfl (.one rfl) rfl (.skip (.skip (.skip (.skip (.skip (.here (.nil _))))))) (.nil _)))))))) rfl ?_
  refine TL.run1 (pure_build Ty.pl124 Ty.zero124 (.cons rfl rfl (.one rfl) rfl (.here (.nil _)) (.cons rfl rfl (.one rfl) rfl (.skip (.here (.nil _))) (.cons rfl rfl (.one rfl) rfl (.skip (.skip (.here (.nil _)))) (.cons rfl rfl (.one rfl) rfl (.skip (.skip (.skip (.here (.nil _))))) (.cons rfl rfl (.one rfl) rfl (.skip (.skip (.skip (.skip (.here (.nil _)))))) (.cons rfl rfl (.one rfl) rfl (.skip (.skip (.skip (.skip (.skip (.here (.nil _))))))) (.nil _)))))))) rfl ?_
  refine TL.run1 (pure_build Ty.pl124 Ty.zero124 (.cons rfl rfl (.one rfl) rfl (.here (.nil _)) (.cons rfl rfl (.one rfl) rfl (.skip (.here (.nil _))) (.cons rfl rfl (.one rfl) rfl (.skip (.skip (.here (.nil _)))) (.cons rfl rfl (.one rfl) rfl (.skip (.skip (.skip (.here (.nil _))))) (.cons rfl rfl (.one rfl) rfl (.skip (.skip (.skip (.skip (.here (.nil _)))))) (.cons rfl rfl (.one rfl) rfl (.skip (.skip (.skip (.skip (.skip (.here (.nil _))))))) (.nil _)))))))) rfl ?_
  refine TL.run1 (pure_build Ty.pl124 Ty.zero124 (.cons rfl rfl (.one rfl) rfl (.here (.nil _)) (.cons rfl rfl (.one rfl) rfl (.skip (.here (.nil _))) (.cons rfl rfl (.one rfl) rfl (.skip (.skip (.here (.nil _)))) (.cons rfl rfl (.one rfl) rfl (.skip (.skip (.skip (.here (.nil _))))) (.cons rfl rfl (.one rfl) rfl (.skip (.skip (.skip (.skip (.here (.nil _)))))) (.cons rfl rfl (.one rfl) rfl (.skip (.skip (.skip (.skip (.skip (.here (.nil _))))))) (.nil _)))))))) rfl ?_
  refine TL.run1 (pure_build Ty.pl124 Ty.zero124 (.cons rfl rfl (.one rfl) rfl (.here (.nil _)) (.cons rfl rfl (.one rfl) rfl (.skip (.here (.nil _))) (.cons rfl rfl (.one rfl) rfl (.skip (.skip (.here (.nil _)))) (.cons rfl rfl (.one rfl) rfl (.skip (.skip (.skip (.here (.nil _))))) (.cons rfl rfl (.one rfl) rfl (.skip (.skip (.skip (.skip (.here (.nil _)))))) (.cons rfl rfl (.one rfl) rfl (.skip (.skip (.skip (.skip (.skip (.here (.nil _))))))) (.nil _)))))))) rfl ?_
  refine TL.run1 (pure_build Ty.pl124 Ty.zero124 (.cons rfl rfl (.one rfl) rfl (.here (.nil _)) (.cons rfl rfl (.one rfl) rfl (.skip (.here (.nil _))) (.cons rfl rfl (.one rfl) rfl (.skip (.skip (.here (.nil _)))) (.cons rfl rfl (.one rfl) rfl (.skip (.skip (.skip (.here (.nil _))))) (.cons rfl rfl (.one rfl) rfl (.skip (.skip (.skip (.skip (.here (.nil _)))))) (.cons rfl rfl (.one rfl) rfl (.skip (.skip (.skip (.skip (.skip (.here (.nil _))))))) (.nil _)))))))) rfl ?_
  refine TL.run1 (pure_build Ty.pl124 Ty.zero124 (.cons rfl rfl (.one rfl) rfl (.here (.nil _)) (.cons rfl rfl (.one rfl) rfl (.skip (.here (.nil _))) (.cons rfl rfl (.one rfl) rfl (.skip (.skip (.here (.nil _)))) (.cons rfl rfl (.one rfl) rfl (.skip (.skip (.skip (.here (.nil _))))) (.cons rfl rfl (.one rfl) rfl (.skip (.skip (.skip (.skip (.here (.nil _)))))) (.cons rfl rfl (.one rfl) rfl (.skip (.skip (.skip (.skip (.skip (.here (.nil _))))))) (.nil _)))))))) rfl ?_
  refine TL.run1 (pure_build Ty.pl124 Ty.zero124 (.cons rfl rfl (.one rfl) rfl (.here (.nil _)) (.cons rfl rfl (.one rfl) rfl (.skip (.here (.nil _))) (.cons rfl rfl (.one rfl) rfl (.skip (.skip (.here (.nil _)))) (.cons rfl rfl (.one rfl) rfl (.skip (.skip (.skip (.here (.nil _))))) (.cons rfl rfl (.one rfl) rfl (.skip (.skip (.skip (.skip (.here (.nil _)))))) (.cons rfl rfl (.one rfl) rfl (.skip (.skip (.skip (.skip (.skip (.here (.nil _))))))) (.nil _)))))))) rfl ?_
  refine TL.run1 (pure_build Ty.pl124 Ty.zero124 (.cons rfl rfl (.one rfl) rfl (.here (.nil _)) (.cons rfl rfl (.one rfl) rfl (.skip (.here (.nil _))) (.cons rfl rfl (.one rfl) rfl (.skip (.skip (.here (.nil _)))) (.cons rfl rfl (.one rfl) rfl (.skip (.skip (.skip (.here (.nil _))))) (.cons rfl rfl (.one rfl) rfl (.skip (.skip (.skip (.skip (.here (.nil _)))))) (.cons rfl rfl (.one rfl) rfl (.skip (.skip (.skip (.skip (.skip (.here (.nil _))))))) (.nil _)))))))) rfl ?_
  refine TL.run1 (pure_build Ty.pl124 Ty.zero124 (.cons rfl rfl (.one rfl) rfl (.here (.nil _)) (.cons rfl rfl (.one rfl) rfl (.skip (.here (.nil _))) (.cons rfl rfl (.one rfl) rfl (.skip (.skip (.here (.nil _)))) (.cons rfl rfl (.one rfl) rfl (.skip (.skip (.skip (.here (.nil _))))) (.cons rfl rfl (.one rfl) rfl (.skip (.skip (.skip (.skip (.here (.nil _)))))) (.cons rfl rfl (.one rfl) rfl (.skip (.skip (.skip (.skip (.skip (.here (.nil _))))))) (.nil _)))))))) rfl ?_
  refine TL.run1 (pure_build Ty.pl124 Ty.zero124 (.cons rfl rfl (.one rfl) rfl (.here (.nil _)) (.cons rfl rfl (.one rfl) rfl (.skip (.here (.nil _))) (.cons rfl rfl (.one rfl) rfl (.skip (.skip (.here (.nil _)))) (.cons rfl rfl (.one rfl) rfl (.skip (.skip (.skip (.here (.nil _))))) (.cons rfl rfl (.one rfl) rfl (.skip (.skip (.skip (.skip (.here (.nil _)))))) (.cons rfl rfl (.one rfl) rfl (.skip (.skip (.skip (.skip (.skip (.here (.nil _))))))) (.nil _)))))))) rfl ?_
  refine TL.run1 (pure_build Ty.pl124 Ty.zero124 (.cons rfl rfl (.one rfl) rfl (.here (.nil _)) (.cons rfl rfl (.one rfl) rfl (.skip (.here (.nil _))) (.cons rfl rfl (.one rfl) rfl (.skip (.skip (.here (.nil _)))) (.cons rfl rfl (.one rfl) rfl (.skip (.skip (.skip (.here (.nil _))))) (.cons rfl rfl (.one rfl) rfl (.skip (.skip (.skip (.skip (.here (.nil _)))))) (.cons rfl rfl (.one rfl) rfl (.skip (.skip (.skip (.skip (.skip (.here (.nil _))))))) (.nil _)))))))) rfl ?_
  refine TL.run1 (pure_build Ty.pl124 Ty.zero124 (.cons rfl rfl (.one rfl) rfl (.here (.nil _)) (.cons rfl rfl (.one rfl) rfl (.skip (.here (.nil _))) (.cons rfl rfl (.one rfl) rfl (.skip (.skip (.here (.nil _)))) (.cons rfl rfl (.one rfl) rfl (.skip (.skip (.skip (.here (.nil _))))) (.cons rfl rfl (.one rfl) rfl (.skip (.skip (.skip (.skip (.here (.nil _)))))) (.cons rfl rfl (.one rfl) rfl (.skip (.skip (.skip (.skip (.skip (.here (.nil _))))))) (.nil _)))))))) rfl ?_
  refine TL.run1 (pure_build Ty.pl124 Ty.zero124 (.cons rfl rfl (.one rfl) rfl (.here (.nil _)) (.cons rfl rfl (.one rfl) rfl (.skip (.here (.nil _))) (.cons rfl rfl (.one rfl) rfl (.skip (.skip (.here (.nil _)))) (.cons rfl rfl (.one rfl) rfl (.skip (.skip (.skip (.here (.nil _))))) (.cons rfl rfl (.one rfl) rfl (.skip (.skip (.skip (.skip (.here (.nil _)))))) (.cons rfl rfl (.one rfl) rfl (.skip (.skip (.skip (.skip (.skip (.here (.nil _))))))) (.nil _)))))))) rfl ?_
  refine TL.run1 (pure_build Ty.pl124 Ty.zero124 (.cons rfl rfl (.one rfl) rfl (.here (.nil _)) (.cons rfl rfl (.one rfl) rfl (.skip (.here (.nil _))) (.cons rfl rfl (.one rfl) rfl (.skip (.skip (.here (.nil _)))) (.cons rfl rfl (.one rfl) rfl (.skip (.skip (.skip (.here (.nil _))))) (.cons rfl rfl (.one rfl) rfl (.skip (.skip (.skip (.skip (.here (.nil _)))))) (.cons rfl rfl (.one rfl) rfl (.skip (.skip (.skip (.skip (.skip (.here (.nil _))))))) (.nil _)))))))) rfl ?_
  refine TL.run1 (pure_build Ty.pl124 Ty.zero124 (.cons rfl rfl (.one rfl) rfl (.here (.nil _)) (.cons rfl rfl (.one rfl) rfl (.skip (.here (.nil _))) (.cons rfl rfl (.one rfl) rfl (.skip (.skip (.here (.nil _)))) (.cons rfl rfl (.one rfl) rfl (.skip (.skip (.skip (.here (.nil _))))) (.cons rfl rfl (.one rfl) rfl (.skip (.skip (.skip (.skip (.here (.nil _)))))) (.cons rfl rfl (.one rfl) rfl (.skip (.skip (.skip (.skip (.skip (.here (.nil _))))))) (.nil _)))))))) rfl ?_
  refine TL.run1 (pure_build Ty.pl124 Ty.zero124 (.cons rfl rfl (.one rfl) rfl (.here (.nil _)) (.cons rfl rfl (.one rfl) rfl (.skip (.here (.nil _))) (.cons rfl rfl (.one rfl) rfl (.skip (.skip (.here (.nil _)))) (.cons rfl rfl (.one rfl) rfl (.skip (.skip (.skip (.here (.nil _))))) (.cons rfl rfl (.one rfl) rfl (.skip (.skip (.skip (.skip (.here (.nil _)))))) (.cons rfl rfl (.one rfl) rfl (.skip (.skip (.skip (.skip (.skip (.here (.nil _))))))) (.nil _)))))))) rfl ?_
  refine TL.run1 (pure_build Ty.pl124 Ty.zero124 (.cons rfl rfl (.one rfl) rfl (.here (.nil _)) (.cons rfl rfl (.one rfl) rfl (.skip (.here (.nil _))) (.cons rfl rfl (.one rfl) rfl (.skip (.skip (.here (.nil _)))) (.cons rfl rfl (.one rfl) rfl (.skip (.skip (.skip (.here (.nil _))))) (.cons rfl rfl (.one rfl) rfl (.skip (.skip (.skip (.skip (.here (.nil _)))))) (.cons rfl rfl (.one rfl) rfl (.skip (.skip (.skip (.skip (.skip (.here (.nil _))))))) (.nil _)))))))) rfl ?_
  refine TL.run1 (pure_build Ty.pl124 Ty.zero124 (.cons rfl rfl (.one rfl) rfl (.here (.nil _)) (.cons rfl rfl (.one rfl) rfl (.skip (.here (.nil _))) (.cons rfl rfl (.one rfl) rfl (.skip (.skip (.here (.nil _)))) (.cons rfl rfl (.one rfl) rfl (.skip (.skip (.skip (.here (.nil _))))) (.cons rfl rfl (.one rfl) rfl (.skip (.skip (.skip (.skip (.here (.nil _)))))) (.cons rfl rfl (.one rfl) rfl (.skip (.skip (.skip (.skip (.skip (.here (.nil _))))))) (.nil _)))))))) rfl ?_
  refine TL.run1 (pure_build Ty.pl124 Ty.zero124 (.cons rfl rfl (.one rfl) rfl (.here (.nil _)) (.cons rfl rfl (.one rfl) rfl (.skip (.here (.nil _))) (.cons rfl rfl (.one rfl) rfl (.skip (.skip (.here (.nil _)))) (.cons rfl rfl (.one rfl) rfl (.skip (.skip (.skip (.here (.nil _))))) (.cons rfl rfl (.one rfl) rfl (.skip (.skip (.skip (.skip (.here (.nil _)))))) (.cons rfl rfl (.one rfl) rfl (.skip (.skip (.skip (.skip (.skip (.here (.nil _))))))) (.nil _)))))))) rfl ?_
  refine TL.run1 (pure_build Ty.pl124 Ty.zero124 (.cons rfl rfl (.one rfl) rfl (.here (.nil _)) (.cons rfl rfl (.one rfl) rfl (.skip (.here (.nil _))) (.cons rfl rfl (.one rfl) rfl (.skip (.skip (.here (.nil _)))) (.cons rfl rfl (.one rfl) rfl (.skip (.skip (.skip (.here (.nil _))))) (.cons rfl rfl (.one rfl) rfl (.skip (.skip (.skip (.skip (.here (.nil _)))))) (.cons rfl rfl (.one rfl) rfl (.skip (.skip (.skip (.skip (.skip (.here (.nil _))))))) (.nil _)))))))) rfl ?_
  refine TL.run1 (pure_build Ty.pl124 Ty.zero124 (.cons rfl rfl (.one rfl) rfl (.here (.nil _)) (.cons rfl rfl (.one rfl) rfl (.skip (.here (.nil _))) (.cons rfl rfl (.one rfl) rfl (.skip (.skip (.here (.nil _)))) (.cons rfl rfl (.one rfl) rfl (.skip (.skip (.skip (.here (.nil _))))) (.cons rfl rfl (.one rfl) rfl (.skip (.skip (.skip (.skip (.here (.nil _)))))) (.cons rfl rfl (.one rfl) rfl (.skip (.skip (.skip (.skip (.skip (.here (.nil _))))))) (.nil _)))))))) rfl ?_
  refine TL.run1 (pure_build Ty.pl124 Ty.zero124 (.cons rfl rfl (.one rfl) rfl (.here (.nil _)) (.cons rfl rfl (.one rfl) rfl (.skip (.here (.nil _))) (.cons rfl rfl (.one rfl) rfl (.skip (.skip (.here (.nil _)))) (.cons rfl rfl (.one rfl) rfl (.skip (.skip (.skip (.here (.nil _))))) (.cons rfl rfl (.one rfl) rfl (.skip (.skip (.skip (.skip (.here (.nil _)))))) (.cons rfl rfl (.one rfl) rfl (.skip (.skip (.skip (.skip (.skip (.here (.nil _))))))) (.nil _)))))))) rfl ?_
  refine TL.run1 (pure_build Ty.pl124 Ty.zero124 (.cons rfl rfl (.one rfl) rfl (.here (.nil _)) (.cons rfl rfl (.one rfl) rfl (.skip (.here (.nil _))) (.cons rfl rfl (.one rfl) rfl (.skip (.skip (.here (.nil _)))) (.cons rfl rfl (.one rfl) rfl (.skip (.skip (.skip (.here (.nil _))))) (.cons rfl rfl (.one rfl) rfl (.skip (.skip (.skip (.skip (.here (.nil _)))))) (.cons rfl rfl (.one rfl) rfl (.skip (.skip (.skip (.skip (.skip (.here (.nil _))))))) (.nil _)))))))) rfl ?_
  refine TL.run1 (pure_build Ty.pl124 Ty.zero124 (.cons rfl rfl (.one rfl) rfl (.here (.nil _)) (.cons rfl rfl (.one rfl) rfl (.skip (.here (.nil _))) (.cons rfl rfl (.one rfl) rfl (.skip (.skip (.here (.nil _)))) (.cons rfl rfl (.one rfl) rfl (.skip (.skip (.skip (.here (.nil _))))) (.cons rfl rfl (.one rfl) rfl (.skip (.skip (.skip (.skip (.here (.nil _)))))) (.cons rfl rfl (.one rfl) rfl (.skip (.skip (.skip (.skip (.skip (.here (.nil _))))))) (.nil _)))))))) rfl ?_
  refine TL.run1 (pure_build Ty.pl124 Ty.zero124 (.cons rfl rfl (.one rfl) rfl (.here (.nil _)) (.cons rfl rfl (.one rfl) rfl (.skip (.here (.nil _))) (.cons rfl rfl (.one rfl) rfl (.skip (.skip (.here (.nil _)))) (.cons rfl rfl (.one rfl) rfl (.skip (.skip (.skip (.here (.nil _))))) (.cons rfl rfl (.one rfl) rfl (.skip (.skip (.skip (.skip (.here (.nil _)))))) (.cons rfl rfl (.one rfl) rfl (.skip (.skip (.skip (.skip (.skip (.here (.nil _))))))) (.nil _)))))))) rfl ?_
  refine TL.run1 (pure_build Ty.pl124 Ty.zero124 (.cons rfl rfl (.one rfl) rfl (.here (.nil _)) (.cons rfl rfl (.one rfl) rfl (.skip (.here (.nil _))) (.cons rfl rfl (.one rfl) rfl (.skip (.skip (.here (.nil _)))) (.cons rfl rfl (.one rfl) rfl (.skip (.skip (.skip (.here (.nil _))))) (.cons rfl rfl (.one rfl) rfl (.skip (.skip (.skip (.skip (.here (.nil _)))))) (.cons rfl rfl (.one rfl) rfl (.skip (.skip (.skip (.skip (.skip (.here (.nil _))))))) (.nil _)))))))) rfl ?_
  refine TL.run1 (pure_build Ty.pl124 Ty.zero124 (.cons rfl rfl (.one rfl) rfl (.here (.nil _)) (.cons rfl rfl (.one rfl) rfl (.skip (.here (.nil _))) (.cons rfl rfl (.one rfl) rfl (.skip (.skip (.here (.nil _)))) (.cons rfl rfl (.one rfl) rfl (.skip (.skip (.skip (.here (.nil _))))) (.cons rfl rfl (.one rfl) rfl (.skip (.skip (.skip (.skip (.here (.nil _)))))) (.cons rfl rfl (.one rfl) rfl (.skip (.skip (.skip (.skip (.skip (.here (.nil _))))))) (.nil _)))))))) rfl ?_
  refine TL.run1 (pure_build Ty.pl124 Ty.zero124 (.cons rfl rfl (.one rfl) rfl (.here (.nil _)) (.cons rfl rfl (.one rfl) rfl (.skip (.here (.nil _))) (.cons rfl rfl (.one rfl) rfl (.skip (.skip (.here (.nil _)))) (.cons rfl rfl (.one rfl) rfl (.skip (.skip (.skip (.here (.nil _))))) (.cons rfl rfl (.one rfl) rfl (.skip (.skip (.skip (.skip (.here (.nil _)))))) (.cons rfl rfl (.one rfl) rfl (.skip (.skip (.skip (.skip (.skip (.here (.nil _))))))) (.nil _)))))))) rfl ?_
  refine TL.run1 (pure_buildSlice (xs := [.tmp 1, .tmp 2, .tmp 3, .tmp 4, .tmp 5, .tmp 6, .tmp 7, .tmp 8, .tmp 9, .tmp 10, .tmp 11, .tmp 12, .tmp 13, .tmp 14, .tmp 15, .tmp 16, .tmp 17, .tmp 18, .tmp 19, .tmp 20, .tmp 21, .tmp 22, .tmp 23, .tmp 24, .tmp 25, .tmp 26, .tmp 27, .tmp 28, .tmp 29, .tmp 30, .tmp 31, .tmp 32, .tmp 33, .tmp 34, .tmp 35, .tmp 36, .tmp 37, .tmp 38, .tmp 39, .tmp 40, .tmp 41, .tmp 42, .tmp 43, .tmp 44, .tmp 45]) Ty.app136 (by decide) rfl rfl (.cons rfl (.agg _) rfl (.cons rfl (.agg _) rfl (.cons rfl (.agg _) rfl (.cons rfl (.agg _) rfl (.cons rfl (.agg _) rfl (.cons rfl (.agg _) rfl (.cons rfl (.agg _) rfl (.cons rfl (.agg _) rfl (.cons rfl (.agg _) rfl (.cons rfl (.agg _) rfl (.cons rfl (.agg _) rfl (.cons rfl (.agg _) rfl (.cons rfl (.agg _) rfl (.cons rfl (.agg _) rfl (.cons rfl (.agg _) rfl (.cons rfl (.agg _) rfl (.cons rfl (.agg _) rfl (.cons rfl (.agg _) rfl (.cons rfl (.agg _) rfl (.cons rfl (.agg _) rfl (.cons rfl (.agg _) rfl (.cons rfl (.agg _) rfl (.cons rfl (.agg _) rfl (.cons rfl (.agg _) rfl (.cons rfl (.agg _) rfl (.cons rfl (.agg _) rfl (.cons rfl (.agg _) rfl (.cons rfl (.agg _) rfl (.cons rfl (.agg _) rfl (.cons rfl (.agg _) rfl (.cons rfl (.agg _) rfl (.cons rfl (.agg _) rfl (.cons rfl (.agg _) rfl (.cons rfl (.agg _) rfl (.cons rfl (.agg _) rfl (.cons rfl (.agg _) rfl (.cons rfl (.agg _) rfl (.cons rfl (.agg _) rfl (.cons rfl (.agg _) rfl (.cons rfl (.agg _) rfl (.cons rfl (.agg _) rfl (.cons rfl (.agg _) rfl (.cons rfl (.agg _) rfl (.cons rfl (.agg _) rfl (.cons rfl (.agg _) rfl .nil)))))))))))))))))))))))))))))))))))))))))))))) rfl ?_
  refine TL.run1 (pure_assign rfl) rfl ?_
  refine TL.nil' ?_
  refine TC.ret ?_
  exact ret_sl rfl rfl
set_option maxRecDepth 100000 in
theorem find1_spec (k : KeyE) (t : Int) : Fun Try.prog 84 [.agg (encK1 k), .v (.int .i64 t)] (.v (.int .i64 (cmpI k.num t))) := by
  refine Fun.enter (n := 9) (rs := [.tmp 4]) Try.func84 rfl Try.ntmps84 Try.results84 rfl (fun w F => ?_)
  refine TC.seq ?_
  refine TC.region ?_
  refine TL.box rfl (.agg _) rfl (fun g2 => ?_)
  refine TL.run1 (pure_assign rfl) rfl ?_
  refine TL.nil' ?_
  refine TC.seq ?_
  refine TC.region ?_
  first | refine TL.run1 (pure_fieldAddr Ty.f124_0 rfl (.zero _) (List.cons_ne_nil _ _)) rfl ?_ | refine TL.run1 (pure_fieldAddr_own Ty.f124_0 rfl) rfl ?_
  first | refine TL.run1 (pure_load1 Ty.one3 rfl) rfl ?_ | refine TL.run1 (pure_load1_own Ty.one3 rfl (by repeat (first | exact List.Mem.head _ | apply List.Mem.tail)) (by repeat (first | exact DropR.zero _ | apply DropR.succ))) rfl ?_
  refine TL.run1 (pure_move rfl) rfl ?_
  refine TL.run1 (pure_call (compare_spec _ _) (.cons rfl (.cons rfl .nil)) Try.call78) rfl ?_
  refine TL.run1 (pure_assign rfl) rfl ?_
  refine TL.nil' ?_
  refine TC.ret ?_
  exact ret_int rfl rfl
set_option maxRecDepth 100000 in
theorem bsK_spec (ks : List KeyE) (t : Int) (hinc : Inc (keysK ks)) (hl : ks.length ≤ 1000000) : Fun Try.prog 83 [.sl 6 (encK ks), .v (.int .i64 t), .fn 84 []] (.tup [.v (.int .i64 (lbI (keysK ks) t)), .v (.bool (inI (keysK ks) t))]) := by
  have hk1 := encK_len ks
  have hk2 := keysK_len ks
  refine Fun.enter (n := 49) (rs := [.tmp 6, .tmp 7]) Try.func83 rfl Try.ntmps83 Try.results83 rfl (fun w F => ?_)
  refine TC.seq ?_
  refine TC.region ?_
  refine TL.run1 (pure_assign rfl) rfl ?_
  refine TL.run1 (pure_assign rfl) rfl ?_
  refine TL.nil' ?_
  refine TC.seq ?_
  refine TC.region ?_
  refine TL.run1 (pure_move rfl) rfl ?_
  first | refine TL.run1 (pure_len Ty.sl136 rfl) rfl ?_ | refine TL.run1 (pure_len_row Ty.sl136 rfl (by repeat (first | exact List.Mem.head _ | apply List.Mem.tail))) rfl ?_ | refine TL.run1 (pure_len_nil Ty.sl136 rfl) rfl ?_
  refine TL.run1 (pure_assign rfl) rfl ?_
  refine TL.nil' ?_
  refine TC.seq ?_
  refine TC.region ?_
  refine TL.run1 (pure_move rfl) rfl ?_
  refine TL.run1 (pure_assign rfl) rfl ?_
  refine TL.run1 (pure_assign rfl) rfl ?_
  refine TL.nil' ?_
  refine TC.seq ?_
  refine TC.block ?_
  refine TC.loopX (X := Int × Int) (fun x => [(0, .sl 6 (encK ks)), (1, .v (.int .i64 t)), (2, .fn 84 []), (8, .v (.int .i64 (encK ks).length)), (9, .v (.int .i64 x.1)), (10, .v (.int .i64 x.2))]) (fun _ => []) (fun x => 0 ≤ x.1 ∧ x.1 ≤ x.2 ∧ x.2 ≤ (keysK ks).length ∧ (∀ j : Nat, j < x.1.toNat → kAt (keysK ks) j < t) ∧ (∀ j : Nat, x.2.toNat ≤ j → j < (keysK ks).length → t ≤ kAt (keysK ks) j)) (fun x => (x.2 - x.1).toNat) (0, (encK ks).length) ⟨by skip; repeat (first | exact Agree.nil | refine Agree.cons rfl ?_), by skip; repeat (first | exact List.nil_sublist _ | exact List.Sublist.refl _ | apply List.Sublist.cons_cons | apply List.Sublist.cons)⟩ ?_ ?_
  · skip
    exact ⟨by omega, by omega, by omega, fun j hj => by simp at hj, fun j h1 h2 => by simp at h1; omega⟩
  rintro ⟨i, j⟩ ⟨h0, h1, h2, h3, h4⟩
  dsimp only at h0 h1 h2 h3 h4
  refine TC.seq ?_
  refine TC.seq ?_
  refine TC.region ?_
  refine TL.run1 (pure_move rfl) rfl ?_
  refine TL.run1 (pure_move rfl) rfl ?_
  refine TL.run1 (pure_lss rfl rfl) rfl ?_
  refine TL.nil' ?_
  first | refine TC.condD rfl (fun hc17 => ?_) (fun hc17 => ?_) | refine TC.condN rfl (fun hc17 => ?_) (fun hc17 => ?_) | refine TC.cond rfl (fun hc17 => ?_) (fun hc17 => ?_)
  · try dsimp only at hc17
    refine TC.skip' ?_
    refine TC.block ?_
    refine TC.seq ?_
    refine TC.region ?_
    refine TL.run1 (pure_move rfl) rfl ?_
    refine TL.run1 (pure_move rfl) rfl ?_
    refine TL.run1 (pure_add rfl rfl (mkI64 (by omega) (by omega))) rfl ?_
    refine TL.run1 (pure_conv Try.underlying3 Try.underlying143 rfl (fit_u64 (by omega) (by omega))) rfl ?_
    refine TL.run1 (pure_shrl (m := 2) (by rfl) rfl rfl (by decide) (by decide)) rfl ?_
    refine TL.run1 (pure_conv Try.underlying143 Try.underlying3 rfl (fit_i64 (by omega) (by omega))) rfl ?_
    refine TL.run1 (pure_assign rfl) rfl ?_
    refine TL.nil' ?_
    refine TC.seq ?_
    have hb : 0 ≤ (i + j) / 2 ∧ (i + j) / 2 < j ∧ i ≤ (i + j) / 2 := by omega
    have hrow := encK_get ks ((i + j) / 2) (by omega) (by omega)
    have hka := kAt_keysK ks (((i + j) / 2)).toNat (by omega)
    rw [show (((((i + j) / 2)).toNat : Nat) : Int) = ((i + j) / 2) by omega] at hka
    refine TC.region ?_
    refine TL.run1 (pure_move rfl) rfl ?_
    refine TL.run1 (pure_move rfl) rfl ?_
    refine TL.run1 (pure_move rfl) rfl ?_
    refine TL.run1 (pure_indexAddr Ty.sl136 rfl rfl (by omega) (by assumption) (List.cons_ne_nil _ _)) rfl ?_
    first | refine TL.run1 (pure_load Ty.agg124 rfl (.succ (.succ (.succ (.succ (.succ (.succ (.zero _)))))))) rfl ?_ | refine TL.run1 (pure_load_own Ty.agg124 rfl (by repeat (first | exact List.Mem.head _ | apply List.Mem.tail)) (by repeat (first | exact DropR.zero _ | apply DropR.succ)) (.succ (.succ (.succ (.succ (.succ (.succ (.zero _)))))))) rfl ?_
    refine TL.run1 (pure_move rfl) rfl ?_
    refine TL.run1 (pure_callv rfl (find1_spec (eAt ks _) _) (.cons rfl (.cons rfl .nil)) Try.call84) rfl ?_
    refine TL.run1 (pure_lss rfl rfl) rfl ?_
    refine TL.nil' ?_
    first | refine TC.condD rfl (fun hc31 => ?_) (fun hc31 => ?_) | refine TC.condN rfl (fun hc31 => ?_) (fun hc31 => ?_) | refine TC.cond rfl (fun hc31 => ?_) (fun hc31 => ?_)
    · try dsimp only at hc31
      have hm : ((i + j) / 2).toNat < (keysK ks).length := by omega
      refine TC.region ?_
      refine TL.run1 (pure_move rfl) rfl ?_
      refine TL.run1 (pure_add rfl rfl (mkI64 (by omega) (by omega))) rfl ?_
      refine TL.run1 (pure_assign rfl) rfl ?_
      refine TL.nil ?_
      refine block_normal ?_
      first
        | (refine loop_next ((i + j) / 2 + 1, j) ⟨by repeat (first | exact Agree.nil | refine Agree.cons rfl ?_), by repeat (first | exact List.nil_sublist _ | exact List.Sublist.refl _ | apply List.Sublist.cons_cons | apply List.Sublist.cons)⟩ ⟨by omega, by omega, by omega, fun m hm1 => ?_, h4⟩ (by dsimp only; omega)
           have hq := (cmpI_neg _ _).1 hc31
           try rw [← hka] at hq
           rcases Nat.lt_or_ge m ((i + j) / 2).toNat with h | h
           · exact Int.lt_trans (hinc.lt h hm) hq
           · rw [show m = ((i + j) / 2).toNat by dsimp only at hm1; omega]; exact hq)
        | (refine loop_next (i, (i + j) / 2) ⟨by repeat (first | exact Agree.nil | refine Agree.cons rfl ?_), by repeat (first | exact List.nil_sublist _ | exact List.Sublist.refl _ | apply List.Sublist.cons_cons | apply List.Sublist.cons)⟩ ⟨by omega, by omega, by omega, h3, fun m hm1 hm2 => ?_⟩ (by dsimp only; omega)
           have hq : t ≤ kAt (keysK ks) ((i + j) / 2).toNat := by (have := mt (cmpI_neg _ _).2 hc31; (try rw [← hka] at this); omega)
           rcases Nat.eq_or_lt_of_le hm1 with h | h
           · rw [← h]; exact hq
           · exact Int.le_trans hq (Int.le_of_lt (hinc.lt h hm2)))
    · try dsimp only at hc31
      have hm : ((i + j) / 2).toNat < (keysK ks).length := by omega
      refine TC.region ?_
      refine TL.run1 (pure_move rfl) rfl ?_
      refine TL.run1 (pure_assign rfl) rfl ?_
      refine TL.nil ?_
      refine block_normal ?_
      first
        | (refine loop_next ((i + j) / 2 + 1, j) ⟨by repeat (first | exact Agree.nil | refine Agree.cons rfl ?_), by repeat (first | exact List.nil_sublist _ | exact List.Sublist.refl _ | apply List.Sublist.cons_cons | apply List.Sublist.cons)⟩ ⟨by omega, by omega, by omega, fun m hm1 => ?_, h4⟩ (by dsimp only; omega)
           have hq := (cmpI_neg _ _).1 hc31
           try rw [← hka] at hq
           rcases Nat.lt_or_ge m ((i + j) / 2).toNat with h | h
           · exact Int.lt_trans (hinc.lt h hm) hq
           · rw [show m = ((i + j) / 2).toNat by dsimp only at hm1; omega]; exact hq)
        | (refine loop_next (i, (i + j) / 2) ⟨by repeat (first | exact Agree.nil | refine Agree.cons rfl ?_), by repeat (first | exact List.nil_sublist _ | exact List.Sublist.refl _ | apply List.Sublist.cons_cons | apply List.Sublist.cons)⟩ ⟨by omega, by omega, by omega, h3, fun m hm1 hm2 => ?_⟩ (by dsimp only; omega)
           have hq : t ≤ kAt (keysK ks) ((i + j) / 2).toNat := by (have := mt (cmpI_neg _ _).2 hc31; (try rw [← hka] at this); omega)
           rcases Nat.eq_or_lt_of_le hm1 with h | h
           · rw [← h]; exact hq
           · exact Int.le_trans hq (Int.le_of_lt (hinc.lt h hm2)))
  · try dsimp only at hc17
    have hij : i = j := by omega
    subst hij
    have hlb : lbI (keysK ks) t = i.toNat := lbI_eq _ _ _ (by omega) h3 (fun hl => h4 _ (by omega) hl)
    refine TC.exit ?_
    refine then_exit ?_
    refine loop_exit ?_
    refine block_here ?_
    refine then_normal ?_
    refine TC.seq ?_
    refine TC.region ?_
    refine TL.run1 (pure_move rfl) rfl ?_
    refine TL.run1 (pure_move rfl) rfl ?_
    refine TL.run1 (pure_move rfl) rfl ?_
    refine TL.run1 (pure_lss rfl rfl) rfl ?_
    refine TL.run1 (pure_move rfl) rfl ?_
    first | refine TL.splitP 39 rfl (fun hg39 => ?_) (fun hg39 => ?_) | refine TL.split 39 rfl (fun hg39 => ?_) (fun hg39 => ?_)
    · try dsimp only at hg39
      have hrow := encK_get ks i (by omega) (by omega)
      have hka := kAt_keysK ks (i).toNat (by omega)
      rw [show (((i).toNat : Nat) : Int) = i by omega] at hka
      refine TL.runG rfl rfl (pure_move rfl) rfl ?_
      refine TL.runG rfl rfl (pure_move rfl) rfl ?_
      refine TL.runG rfl rfl (pure_move rfl) rfl ?_
      refine TL.runG rfl rfl (pure_indexAddr Ty.sl136 rfl rfl (by omega) (by assumption) (List.cons_ne_nil _ _)) rfl ?_
      first | refine TL.runG rfl rfl (pure_load Ty.agg124 rfl (.succ (.succ (.succ (.succ (.succ (.succ (.zero _)))))))) rfl ?_ | refine TL.runG rfl rfl (pure_load_own Ty.agg124 rfl (by repeat (first | exact List.Mem.head _ | apply List.Mem.tail)) (by repeat (first | exact DropR.zero _ | apply DropR.succ)) (.succ (.succ (.succ (.succ (.succ (.succ (.zero _)))))))) rfl ?_
      refine TL.runG rfl rfl (pure_move rfl) rfl ?_
      refine TL.runG rfl rfl (pure_callv rfl (find1_spec (eAt ks _) _) (.cons rfl (.cons rfl .nil)) Try.call84) rfl ?_
      refine TL.runG rfl rfl (pure_eql rfl rfl) rfl ?_
      refine TL.run1 (pure_pick_true rfl rfl) rfl ?_
      refine TL.run1 (pure_assign rfl) rfl ?_
      refine TL.run1 (pure_assign rfl) rfl ?_
      refine TL.nil' ?_
      refine TC.ret ?_
      refine ret2 (.inl rfl) rfl rfl ?_
      rw [hlb, show ((i.toNat : Nat) : Int) = i by omega]; unfold inI; rw [hlb]
      by_cases hx : i.toNat < (keysK ks).length
      · try rw [← hka]
        simp [cmpI_zero, hx]
        try (exfalso; omega)
      · simp [hx]
        try (exfalso; omega)
    · try dsimp only at hg39
      refine TL.passG rfl rfl rfl rfl ?_
      refine TL.passG rfl rfl rfl rfl ?_
      refine TL.passG rfl rfl rfl rfl ?_
      refine TL.passG rfl rfl rfl rfl ?_
      refine TL.passG rfl rfl rfl rfl ?_
      refine TL.passG rfl rfl rfl rfl ?_
      refine TL.passG rfl rfl rfl rfl ?_
      refine TL.passG rfl rfl rfl rfl ?_
      refine TL.run1 (pure_pick_false rfl rfl) rfl ?_
      refine TL.run1 (pure_assign rfl) rfl ?_
      refine TL.run1 (pure_assign rfl) rfl ?_
      refine TL.nil' ?_
      refine TC.ret ?_
      refine ret2 (.inl rfl) rfl rfl ?_
      rw [hlb, show ((i.toNat : Nat) : Int) = i by omega]; unfold inI; rw [hlb]
      by_cases hx : i.toNat < (keysK ks).length
      · try rw [← hka]
        simp [cmpI_zero, hx]
        try (exfalso; omega)
      · simp [hx]
        try (exfalso; omega)
def findK (t : Int) : KeyE := if inI (keysK tableK) t = true then eAt tableK (lbI (keysK tableK) t) else kE0
set_option maxRecDepth 100000 in
theorem findK_spec (t : Int) : Fun Try.prog 71 [.v (.int .i64 t)] (.tup [.agg (encK1 (findK t)), .v (.bool (inI (keysK tableK) t))]) := by
  refine Fun.enter (n := 21) (rs := [.cell 2 124, .tmp 3]) Try.func71 rfl Try.ntmps71 Try.results71 rfl (fun w F => ?_)
  refine TC.seq ?_
  refine TC.region ?_
  refine TL.alloc Ty.zero124 rfl (fun g2 => ?_)
  refine TL.run1 (pure_assign rfl) rfl ?_
  refine TL.nil' ?_
  refine TC.seq ?_
  refine TC.region ?_
  refine TL.run1 (pure_call (table_spec) .nil Try.call82) rfl ?_
  refine TL.run1 (pure_assign rfl) rfl ?_
  refine TL.nil' ?_
  refine TC.seq ?_
  refine TC.region ?_
  refine TL.run1 (pure_move rfl) rfl ?_
  refine TL.run1 (pure_move rfl) rfl ?_
  refine TL.run1 (pure_call (bsK_spec _ _ tableK_inc (by rw [tableK_len]; omega)) (.cons rfl (.cons rfl (.cons rfl .nil))) Try.call83) rfl ?_
  refine TL.run1 (pure_move rfl) rfl ?_
  refine TL.run1 (pure_extract rfl rfl) rfl ?_
  refine TL.run1 (pure_extract rfl rfl) rfl ?_
  refine TL.run1 (pure_assign rfl) rfl ?_
  refine TL.run1 (pure_assign rfl) rfl ?_
  refine TL.nil' ?_
  refine TC.seq ?_
  refine TC.seq ?_
  refine TC.region ?_
  refine TL.run1 (pure_move rfl) rfl ?_
  refine TL.run1 (pure_not rfl) rfl ?_
  refine TL.nil' ?_
  first | refine TC.condD rfl (fun hc15 => ?_) (fun hc15 => ?_) | refine TC.condN rfl (fun hc15 => ?_) (fun hc15 => ?_) | refine TC.cond rfl (fun hc15 => ?_) (fun hc15 => ?_)
  · try dsimp only at hc15
    have hin : inI (keysK tableK) t = false := decide_eq_false hc15
    refine TC.seq ?_
    refine TC.region ?_
    refine TL.run1 (pure_build Ty.pl124 Ty.zero124 (.nil _)) rfl ?_
    refine TL.store rfl rfl (.agg _) Try.sizeOf124 rfl (by repeat (first | exact UpdR.here _ | apply UpdR.there)) (by repeat (first | exact PutR.nil _ | apply PutR.here | apply PutR.skip)) ?_
    refine TL.run1 (pure_assign rfl) rfl ?_
    refine TL.nil' ?_
    refine TC.ret ?_
    refine then_ret ?_
    exact ret_cell_tmp (.inl rfl) Ty.agg124 rfl (.head _) rfl rfl (by rw [findK, hin]; rfl)
  · try dsimp only at hc15
    have hin : inI (keysK tableK) t = true := decide_eq_true hc15
    have hlt : lbI (keysK tableK) t < tableK.length := by have := hc15; rw [keysK_len] at this; exact this.1
    have hrow := encK_get tableK (lbI (keysK tableK) t) (by omega) (by omega)
    refine TC.skip' ?_
    refine TC.seq ?_
    refine TC.region ?_
    refine TL.run1 (pure_move rfl) rfl ?_
    refine TL.run1 (pure_move rfl) rfl ?_
    refine TL.run1 (pure_indexAddr Ty.sl136 rfl rfl (by omega) (by assumption) (List.cons_ne_nil _ _)) rfl ?_
    first | refine TL.run1 (pure_load Ty.agg124 rfl (.succ (.succ (.succ (.succ (.succ (.succ (.zero _)))))))) rfl ?_ | refine TL.run1 (pure_load_own Ty.agg124 rfl (by repeat (first | exact List.Mem.head _ | apply List.Mem.tail)) (by repeat (first | exact DropR.zero _ | apply DropR.succ)) (.succ (.succ (.succ (.succ (.succ (.succ (.zero _)))))))) rfl ?_
    refine TL.store rfl rfl (.agg _) Try.sizeOf124 rfl (by repeat (first | exact UpdR.here _ | apply UpdR.there)) (by repeat (first | exact PutR.nil _ | apply PutR.here | apply PutR.skip)) ?_
    refine TL.run1 (pure_assign rfl) rfl ?_
    refine TL.nil' ?_
    refine TC.ret ?_
    exact ret_cell_tmp (.inl rfl) Ty.agg124 rfl (.head _) rfl rfl (by rw [findK, hin]; rfl)
set_option maxRecDepth 100000 in
theorem default_spec (t : Int) : Fun Try.prog 62 [.v (.int .i64 t)] (.tup [.v (.int .i64 (findK t).std), .v (.int .i64 (if inI (keysK tableK) t = true then 0 else 4))]) := by
  refine Fun.enter (n := 15) (rs := [.tmp 2, .tmp 3]) Try.func62 rfl Try.ntmps62 Try.results62 rfl (fun w F => ?_)
  refine TC.seq ?_
  refine TC.region ?_
  refine TL.run1 (pure_assign rfl) rfl ?_
  refine TL.run1 (pure_assign rfl) rfl ?_
  refine TL.nil' ?_
  refine TC.seq ?_
  refine TC.region ?_
  refine TL.run1 (pure_move rfl) rfl ?_
  refine TL.run1 (pure_call (findK_spec _) (.cons rfl .nil) Try.call71) rfl ?_
  refine TL.run1 (pure_move rfl) rfl ?_
  refine TL.run1 (pure_extract rfl rfl) rfl ?_
  refine TL.run1 (pure_extract rfl rfl) rfl ?_
  refine TL.alloc Ty.zero124 rfl (fun g4 => ?_)
  refine TL.store rfl rfl (.agg _) Try.sizeOf124 rfl (by repeat (first | exact UpdR.here _ | apply UpdR.there)) (by repeat (first | exact PutR.nil _ | apply PutR.here | apply PutR.skip)) ?_
  refine TL.run1 (pure_assign rfl) rfl ?_
  refine TL.nil' ?_
  refine TC.seq ?_
  refine TC.seq ?_
  refine TC.region ?_
  refine TL.run1 (pure_move rfl) rfl ?_
  refine TL.run1 (pure_not rfl) rfl ?_
  refine TL.nil' ?_
  first | refine TC.condD rfl (fun hc12 => ?_) (fun hc12 => ?_) | refine TC.condN rfl (fun hc12 => ?_) (fun hc12 => ?_) | refine TC.cond rfl (fun hc12 => ?_) (fun hc12 => ?_)
  · try dsimp only at hc12
    have hin : inI (keysK tableK) t = false := decide_eq_false hc12
    refine TC.seq ?_
    refine TC.region ?_
    refine TL.run1 (pure_assign rfl) rfl ?_
    refine TL.run1 (pure_assign rfl) rfl ?_
    refine TL.nil' ?_
    refine TC.ret ?_
    refine then_ret ?_
    exact ret2 (.inl rfl) rfl rfl (by first | (rw [hin]; rfl) | (rw [findK, hin]; rfl))
  · try dsimp only at hc12
    have hin : inI (keysK tableK) t = true := decide_eq_true hc12
    refine TC.skip' ?_
    refine TC.seq ?_
    refine TC.region ?_
    first | refine TL.run1 (pure_fieldAddr Ty.f124_4 rfl (.succ (.succ (.succ (.succ (.zero _))))) (List.cons_ne_nil _ _)) rfl ?_ | refine TL.run1 (pure_fieldAddr_own Ty.f124_4 rfl) rfl ?_
    first | refine TL.run1 (pure_load1 Ty.one3 rfl) rfl ?_ | refine TL.run1 (pure_load1_own Ty.one3 rfl (by repeat (first | exact List.Mem.head _ | apply List.Mem.tail)) (by repeat (first | exact DropR.zero _ | apply DropR.succ))) rfl ?_
    refine TL.run1 (pure_assign rfl) rfl ?_
    refine TL.run1 (pure_assign rfl) rfl ?_
    refine TL.nil' ?_
    refine TC.ret ?_
    exact ret2 (.inl rfl) rfl rfl (by first | (rw [hin]; rfl) | (rw [findK, hin]; rfl))
set_option maxRecDepth 100000 in
theorem value_spec (ps : List (Int × Int)) (t : Int) (hinc : Inc (keysP ps)) (hl : ps.length ≤ 1000000) : Fun Try.prog 55 [.sl 2 (encP ps), .v (.int .i64 t)] (.v (.int .i64 (getP ps t (findK t).std))) := by
  refine Fun.enter (n := 23) (rs := [.tmp 4]) Try.func55 rfl Try.ntmps55 Try.results55 rfl (fun w F => ?_)
  refine TC.seq ?_
  refine TC.region ?_
  refine TL.run1 (pure_assign rfl) rfl ?_
  refine TL.nil' ?_
  refine TC.seq ?_
  refine TC.seq ?_
  refine TC.region ?_
  refine TL.run1 (pure_move rfl) rfl ?_
  refine TL.run1 (pure_move rfl) rfl ?_
  refine TL.run1 (pure_call (getPr_spec _ _ hinc hl) (.cons rfl (.cons rfl .nil)) Try.call61) rfl ?_
  refine TL.run1 (pure_move rfl) rfl ?_
  refine TL.run1 (pure_extract rfl rfl) rfl ?_
  refine TL.run1 (pure_extract rfl rfl) rfl ?_
  refine TL.run1 (pure_assign rfl) rfl ?_
  refine TL.run1 (pure_assign rfl) rfl ?_
  refine TL.nil' ?_
  refine TC.seq ?_
  refine TC.region ?_
  refine TL.run1 (pure_move rfl) rfl ?_
  refine TL.nil' ?_
  first | refine TC.condD rfl (fun hc15 => ?_) (fun hc15 => ?_) | refine TC.condN rfl (fun hc15 => ?_) (fun hc15 => ?_) | refine TC.cond rfl (fun hc15 => ?_) (fun hc15 => ?_)
  · try dsimp only at hc15
    have hin : inI (keysP ps) t = true := decide_eq_true hc15
    refine TC.seq ?_
    refine TC.region ?_
    refine TL.run1 (pure_move rfl) rfl ?_
    refine TL.run1 (pure_assign rfl) rfl ?_
    refine TL.nil' ?_
    refine TC.ret ?_
    refine then_ret ?_
    exact ret_int rfl (by rw [getP_lb ps t _ hinc, getP_lb ps t _ hinc, hin]; rfl)
  · try dsimp only at hc15
    have hin : inI (keysP ps) t = false := decide_eq_false hc15
    refine TC.skip' ?_
    refine TC.seq ?_
    refine TC.region ?_
    refine TL.run1 (pure_move rfl) rfl ?_
    refine TL.run1 (pure_call (default_spec _) (.cons rfl .nil) Try.call62) rfl ?_
    refine TL.run1 (pure_move rfl) rfl ?_
    refine TL.run1 (pure_extract rfl rfl) rfl ?_
    refine TL.run1 (pure_extract rfl rfl) rfl ?_
    refine TL.run1 (pure_assign rfl) rfl ?_
    refine TL.run1 (pure_assign rfl) rfl ?_
    refine TL.nil' ?_
    refine TC.seq ?_
    refine TC.region ?_
    refine TL.run1 (pure_move rfl) rfl ?_
    refine TL.run1 (pure_assign rfl) rfl ?_
    refine TL.nil' ?_
    refine TC.ret ?_
    exact ret_int rfl (by rw [getP_lb ps t _ hinc, hin]; rfl)
theorem value60_spec (ps : List (Int × Int)) (hinc : Inc (keysP ps)) (hl : ps.length ≤ 1000000) : Fun Try.prog 55 [.sl 2 (encP ps), .v (.int .i64 60)] (.v (.int .i64 (getP ps 60 1))) := value_spec ps 60 hinc hl
theorem value61_spec (ps : List (Int × Int)) (hinc : Inc (keysP ps)) (hl : ps.length ≤ 1000000) : Fun Try.prog 55 [.sl 2 (encP ps), .v (.int .i64 61)] (.v (.int .i64 (getP ps 61 0))) := value_spec ps 61 hinc hl
end Go.Ob
set_option linter.unusedVariables false
set_option linter.unusedSimpArgs false
namespace Go.Ob
open Go.Proofs
structure CellD where
  id : D
  props : List (Int × Int)
  ins : D
  move : D
  dels : D
  layers : D
  flow : List (List D)
def encC (c : CellD) : List D := [c.id, .sl 2 (encP c.props), c.ins, c.move, c.dels, c.layers, .sl 11 c.flow]
def encCs (cs : List CellD) : List (List D) := cs.map encC
structure RowD where
  hp : D
  hi : D
  hm : D
  hd : D
  hl : D
  cells : List CellD
def encR (r : RowD) : List D := [r.hp, r.hi, r.hm, r.hd, r.hl, .sl 7 (encCs r.cells)]
def encRs (rs : List RowD) : List (List D) := rs.map encR
def cell0 : CellD := ⟨.v .nilIface, [], .v .nilIface, .v .nilIface, .v .nilIface, .v .nilIface, []⟩
def row0 : RowD := ⟨.v .nilIface, .v .nilIface, .v .nilIface, .v .nilIface, .v .nilIface, []⟩
def cAt (cs : List CellD) (i : Int) : CellD := cs.getD i.toNat cell0
def rAt (rs : List RowD) (i : Int) : RowD := rs.getD i.toNat row0
theorem encCs_len (cs : List CellD) : (encCs cs).length = cs.length := by simp [encCs]
theorem encRs_len (rs : List RowD) : (encRs rs).length = rs.length := by simp [encRs]
theorem encCs_get (cs : List CellD) (i : Int) (h0 : 0 ≤ i) (h1 : i < cs.length) : (encCs cs)[i.toNat]? = some (encC (cAt cs i)) := by
  have : i.toNat < cs.length := by omega
  simp [encCs, cAt, this]
theorem encRs_get (rs : List RowD) (i : Int) (h0 : 0 ≤ i) (h1 : i < rs.length) : (encRs rs)[i.toNat]? = some (encR (rAt rs i)) := by
  have : i.toNat < rs.length := by omega
  simp [encRs, rAt, this]
theorem cAt_mem (cs : List CellD) (i : Int) (h0 : 0 ≤ i) (h1 : i < cs.length) : cAt cs i ∈ cs := by
  have : i.toNat < cs.length := by omega
  simp [cAt, this]
theorem rAt_mem (rs : List RowD) (i : Int) (h0 : 0 ≤ i) (h1 : i < rs.length) : rAt rs i ∈ rs := by
  have : i.toNat < rs.length := by omega
  simp [rAt, this]
theorem drop_cell (cs : List CellD) (i : Int) (h0 : 0 ≤ i) (h1 : i < cs.length) : cs.drop i.toNat = cAt cs i :: cs.drop (i + 1).toNat := by
  have hl : i.toNat < cs.length := by omega
  rw [List.drop_eq_getElem_cons hl, show (i + 1).toNat = i.toNat + 1 by omega]
  simp [cAt, hl]
def CellOk (c : CellD) : Prop := Inc (keysP c.props) ∧ c.props.length ≤ 1000000
def RowOk (r : RowD) : Prop := (∀ c ∈ r.cells, CellOk c) ∧ r.cells.length ≤ 1000000 ∧ r.cells.length ≤ 2000
def TabOk (rs : List RowD) : Prop := (∀ r ∈ rs, RowOk r) ∧ rs.length ≤ 1000000
def spanN (c : CellD) : Int := max (getP c.props 60 1) 1
def spansFrom : Int → List CellD → List (Int × Int)
  | _, [] => []
  | k, c :: cs => (k, k + min (spanN c) (32 - k)) :: spansFrom (k + min (spanN c) (32 - k)) cs
def spansR (r : RowD) : List (Int × Int) := spansFrom 0 r.cells
def encS (l : List (Int × Int)) : List (List D) := l.map fun s => [.v (.int .i64 s.1), .v (.int .i64 s.2)]
theorem encS_len (l : List (Int × Int)) : (encS l).length = l.length := by simp [encS]
theorem encS_snoc (l : List (Int × Int)) (a b : Int) : encS (l ++ [(a, b)]) = encS l ++ [[.v (.int .i64 a), .v (.int .i64 b)]] := by simp [encS]
def sAt (l : List (Int × Int)) (i : Int) : Int × Int := l.getD i.toNat (0, 0)
theorem encS_get (l : List (Int × Int)) (i : Int) (h0 : 0 ≤ i) (h1 : i < l.length) : (encS l)[i.toNat]? = some [.v (.int .i64 (sAt l i).1), .v (.int .i64 (sAt l i).2)] := by
  have : i.toNat < l.length := by omega
  simp [encS, sAt, this]
theorem spansFrom_len : ∀ (cs : List CellD) (k : Int), (spansFrom k cs).length = cs.length
  | [], _ => rfl
  | c :: cs, k => by simp [spansFrom, spansFrom_len cs]
def mergedN (c : CellD) : Int := if getP c.props 61 0 ≠ 1 ∧ getP c.props 61 0 ≠ 2 then 0 else getP c.props 61 0
theorem encS_each (l : List (Int × Int)) : ∀ x ∈ encS l, x.length = 2 := by
  intro x hx; simp only [encS, List.mem_map] at hx; obtain ⟨s, _, rfl⟩ := hx; rfl
set_option maxRecDepth 100000 in
theorem spans_spec (r : RowD) (hr : RowOk r) : Fun Try.prog 39 [.agg (encR r)] (.sl 2 (encS (spansR r))) := by
  have hrl := hr.2.1
  refine Fun.enterF (n := 36) (rs := [.tmp 2]) Try.func39 rfl Try.ntmps39 Try.results39 rfl (fun w F => ?_)
  refine TC.seq ?_
  refine TC.region ?_
  refine TL.box rfl (.agg _) rfl (fun g1 => ?_)
  refine TL.run1 (pure_assign rfl) rfl ?_
  refine TL.nil' ?_
  refine TC.seq ?_
  refine TC.region ?_
  refine TL.run1 (pure_assign rfl) rfl ?_
  refine TL.nil' ?_
  refine TC.seq ?_
  refine TC.region ?_
  refine TL.run1 (pure_assign rfl) rfl ?_
  refine TL.nil' ?_
  refine TC.seq ?_
  refine TC.seq ?_
  refine TC.nilrow 51 2 ?_
  refine TC.region ?_
  first | refine TL.run1 (pure_fieldAddr Ty.f36_1 rfl (.succ (.succ (.succ (.succ (.succ (.zero _)))))) (List.cons_ne_nil _ _)) rfl ?_ | refine TL.run1 (pure_fieldAddr_own Ty.f36_1 rfl) rfl ?_
  first | refine TL.run1 (pure_load1 Ty.one34 rfl) rfl ?_ | refine TL.run1 (pure_load1_own Ty.one34 rfl (by repeat (first | exact List.Mem.head _ | apply List.Mem.tail)) (by repeat (first | exact DropR.zero _ | apply DropR.succ))) rfl ?_
  first | refine TL.run1 (pure_len Ty.sl34 rfl) rfl ?_ | refine TL.run1 (pure_len_row Ty.sl34 rfl (by repeat (first | exact List.Mem.head _ | apply List.Mem.tail))) rfl ?_ | refine TL.run1 (pure_len_nil Ty.sl34 rfl) rfl ?_
  refine TL.run1 (pure_move rfl) rfl ?_
  refine TL.nil' ?_
  refine TC.block ?_
  refine TC.loopX (X := Int × Value × Int × List (Int × Int)) (fun (k, v, at0, pre) => [(10, .sl 7 (encCs r.cells)), (11, .v (.int .i64 (encCs r.cells).length)), (3, .v v), (4, .v (.int .i64 at0)), (12, .v (.int .i64 k))]) (fun (k, v, at0, pre) => [.row v 51 2 (encS pre)]) (fun (k, v, at0, pre) => (0 ≤ k) ∧ (k ≤ r.cells.length) ∧ (0 ≤ at0) ∧ (at0 ≤ 32) ∧ (pre.length = k.toNat) ∧ (spansR r = pre ++ spansFrom at0 (r.cells.drop k.toNat))) (fun (k, v, at0, pre) => (r.cells.length - k).toNat) (0, .slice none 0 0, 0, []) ⟨by skip; repeat (first | exact Agree.nil | refine Agree.cons rfl ?_), by skip; repeat (first | exact List.nil_sublist _ | exact List.Sublist.refl _ | apply List.Sublist.cons_cons | apply List.Sublist.cons)⟩ ?_ ?_
  · skip
    exact ⟨by omega, by omega, by omega, by omega, rfl, rfl⟩
  rintro ⟨k, v, at0, pre⟩
  rintro ⟨h0, h1, h2, h3, h4, h5⟩
  show TC _ _ _ (Env.of [(10, .sl 7 (encCs r.cells)), (11, .v (.int .i64 (encCs r.cells).length)), (3, .v v), (4, .v (.int .i64 at0)), (12, .v (.int .i64 k))]) [.row v 51 2 (encS pre)]
  have hk := encCs_len r.cells
  have hp := encS_len pre
  refine TC.seq ?_
  refine TC.region ?_
  refine TL.run1 (pure_lss rfl rfl) rfl ?_
  refine TL.nil' ?_
  refine TC.seq ?_
  first | refine TC.condD rfl (fun hc13 => ?_) (fun hc13 => ?_) | refine TC.condN rfl (fun hc13 => ?_) (fun hc13 => ?_) | refine TC.cond rfl (fun hc13 => ?_) (fun hc13 => ?_)
  · try dsimp only at hc13
    refine TC.skip' ?_
    refine TC.seq ?_
    refine TC.block ?_
    refine TC.seq ?_
    have hrow := encCs_get r.cells k h0 (by omega)
    have hok := hr.1 _ (cAt_mem r.cells k h0 (by omega))
    refine TC.region ?_
    refine TL.run1 (pure_indexAddr Ty.sl34 rfl rfl (by omega) (by assumption) (List.cons_ne_nil _ _)) rfl ?_
    first | refine TL.run1 (pure_load Ty.agg74 rfl (.succ (.succ (.succ (.succ (.succ (.succ (.succ (.zero _))))))))) rfl ?_ | refine TL.run1 (pure_load_own Ty.agg74 rfl (by repeat (first | exact List.Mem.head _ | apply List.Mem.tail)) (by repeat (first | exact DropR.zero _ | apply DropR.succ)) (.succ (.succ (.succ (.succ (.succ (.succ (.succ (.zero _))))))))) rfl ?_
    refine TL.alloc Ty.zero74 rfl (fun g6 => ?_)
    refine TL.store rfl rfl (.agg _) Try.sizeOf74 rfl (by repeat (first | exact UpdR.here _ | apply UpdR.there)) (by repeat (first | exact PutR.nil _ | apply PutR.here | apply PutR.skip)) ?_
    refine TL.nil' ?_
    refine TC.seq ?_
    refine TC.region ?_
    first | refine TL.run1 (pure_fieldAddr Ty.f74_1 rfl (.succ (.zero _)) (List.cons_ne_nil _ _)) rfl ?_ | refine TL.run1 (pure_fieldAddr_own Ty.f74_1 rfl) rfl ?_
    first | refine TL.run1 (pure_fieldAddr Ty.f33_0 rfl (.zero _) (List.cons_ne_nil _ _)) rfl ?_ | refine TL.run1 (pure_fieldAddr_own Ty.f33_0 rfl) rfl ?_
    first | refine TL.run1 (pure_load1 Ty.one27 rfl) rfl ?_ | refine TL.run1 (pure_load1_own Ty.one27 rfl (by repeat (first | exact List.Mem.head _ | apply List.Mem.tail)) (by repeat (first | exact DropR.zero _ | apply DropR.succ))) rfl ?_
    first | refine TL.run1 (pure_call (value60_spec _ hok.1 hok.2) (.cons rfl (.cons rfl .nil)) Try.call55) rfl ?_ | refine TL.run1 (pure_call (value61_spec _ hok.1 hok.2) (.cons rfl (.cons rfl .nil)) Try.call55) rfl ?_
    refine TL.run1 (pure_max rfl rfl) rfl ?_
    refine TL.run1 (pure_assign rfl) rfl ?_
    refine TL.nil' ?_
    refine TC.seq ?_
    have hsp : 1 ≤ max (getP (cAt r.cells k).props 60 1) 1 := by omega
    refine TC.region ?_
    refine TL.run1 (pure_move rfl) rfl ?_
    refine TL.run1 (pure_move rfl) rfl ?_
    refine TL.run1 (pure_move rfl) rfl ?_
    refine TL.run1 (pure_sub rfl rfl (mkI64 (by omega) (by omega))) rfl ?_
    refine TL.run1 (pure_min rfl rfl) rfl ?_
    refine TL.run1 (pure_add rfl rfl (mkI64 (by omega) (by omega))) rfl ?_
    refine TL.run1 (pure_assign rfl) rfl ?_
    refine TL.nil' ?_
    refine TC.seq ?_
    refine TC.region ?_
    refine TL.run1 (pure_move rfl) rfl ?_
    refine TL.run1 (pure_move rfl) rfl ?_
    refine TL.run1 (pure_move rfl) rfl ?_
    refine TL.run1 (pure_build Ty.pl51 Ty.zero51 (.cons rfl rfl (.one rfl) rfl (.here (.nil _)) (.cons rfl rfl (.one rfl) rfl (.skip (.here (.nil _))) (.nil _)))) rfl ?_
    refine TL.run1 (pure_buildSlice (xs := [.tmp 30]) Ty.app44 (by decide) rfl rfl (.cons rfl (.agg _) rfl .nil)) rfl ?_
    refine TL.append Ty.app44 rfl rfl (by intro _; repeat (first | exact UpdR.here _ | apply UpdR.there)) (by simp only [List.length_append, List.length_cons, List.length_nil]; omega) (by simp only [List.length_append, List.length_cons, List.length_nil]; omega) rfl (fun v32 hv32 => ?_)
    refine TL.run1 (pure_assign rfl) rfl ?_
    refine TL.nil' ?_
    refine TC.region ?_
    refine TL.run1 (pure_move rfl) rfl ?_
    refine TL.run1 (pure_assign rfl) rfl ?_
    refine TL.nil ?_
    refine block_normal ?_
    refine then_normal ?_
    refine TC.region ?_
    refine TL.run1 (pure_add rfl rfl (mkI64 (by omega) (by omega))) rfl ?_
    refine TL.run1 (pure_move rfl) rfl ?_
    refine TL.nil ?_
    have hto : 0 ≤ at0 + min (spanN (cAt r.cells k)) (32 - at0) ∧ at0 + min (spanN (cAt r.cells k)) (32 - at0) ≤ 32 := by unfold spanN; omega
    refine loop_next (k + 1, v32, at0 + min (spanN (cAt r.cells k)) (32 - at0), pre ++ [(at0, at0 + min (spanN (cAt r.cells k)) (32 - at0))]) ⟨by repeat (first | exact Agree.nil | refine Agree.cons rfl ?_), ?_⟩ ⟨by omega, by omega, hto.1, hto.2, by rw [List.length_append, h4]; show _ = (k + 1).toNat; simp; omega, ?_⟩ (by dsimp only; omega)
    · dsimp only; rw [encS_snoc]; repeat (first | exact List.nil_sublist _ | exact List.Sublist.refl _ | apply List.Sublist.cons_cons | apply List.Sublist.cons)
    · rw [h5, drop_cell r.cells k h0 (by omega), List.append_assoc]; rfl
  · try dsimp only at hc13
    refine TC.exit ?_
    refine then_exit ?_
    refine loop_exit ?_
    refine block_here ?_
    refine then_normal ?_
    refine TC.seq ?_
    refine TC.region ?_
    refine TL.run1 (pure_move rfl) rfl ?_
    refine TL.run1 (pure_assign rfl) rfl ?_
    refine TL.nil' ?_
    refine TC.ret ?_
    exact retF_row rfl (.head _) (by decide) (encS_each _) (by rw [h5, List.drop_eq_nil_of_le (by omega)]; simp [spansFrom])
set_option maxRecDepth 100000 in
theorem merged_spec (c : CellD) (hok : CellOk c) : Fun Try.prog 52 [.agg (encC c)] (.v (.int .i64 (mergedN c))) := by
  refine Fun.enter (n := 15) (rs := [.tmp 2]) Try.func52 rfl Try.ntmps52 Try.results52 rfl (fun w F => ?_)
  refine TC.seq ?_
  refine TC.region ?_
  refine TL.box rfl (.agg _) rfl (fun g1 => ?_)
  refine TL.run1 (pure_assign rfl) rfl ?_
  refine TL.nil' ?_
  refine TC.seq ?_
  refine TC.region ?_
  first | refine TL.run1 (pure_fieldAddr Ty.f74_1 rfl (.succ (.zero _)) (List.cons_ne_nil _ _)) rfl ?_ | refine TL.run1 (pure_fieldAddr_own Ty.f74_1 rfl) rfl ?_
  first | refine TL.run1 (pure_fieldAddr Ty.f33_0 rfl (.zero _) (List.cons_ne_nil _ _)) rfl ?_ | refine TL.run1 (pure_fieldAddr_own Ty.f33_0 rfl) rfl ?_
  first | refine TL.run1 (pure_load1 Ty.one27 rfl) rfl ?_ | refine TL.run1 (pure_load1_own Ty.one27 rfl (by repeat (first | exact List.Mem.head _ | apply List.Mem.tail)) (by repeat (first | exact DropR.zero _ | apply DropR.succ))) rfl ?_
  first | refine TL.run1 (pure_call (value60_spec _ hok.1 hok.2) (.cons rfl (.cons rfl .nil)) Try.call55) rfl ?_ | refine TL.run1 (pure_call (value61_spec _ hok.1 hok.2) (.cons rfl (.cons rfl .nil)) Try.call55) rfl ?_
  refine TL.run1 (pure_assign rfl) rfl ?_
  refine TL.nil' ?_
  refine TC.seq ?_
  refine TC.regionCut [8, 9, 10, 11, 12, 13] 13 (getP c.props 61 0 ≠ 1 ∧ getP c.props 61 0 ≠ 2) ?_ ?_
  · skip
    refine TL.run1 (pure_move rfl) rfl ?_
    refine TL.run1 (pure_neq rfl rfl) rfl ?_
    refine TL.run1 (pure_move rfl) rfl ?_
    first | refine TL.splitP 10 rfl (fun hg10 => ?_) (fun hg10 => ?_) | refine TL.split 10 rfl (fun hg10 => ?_) (fun hg10 => ?_)
    · try dsimp only at hg10
      refine TL.runG rfl rfl (pure_move rfl) rfl ?_
      refine TL.runG rfl rfl (pure_neq rfl rfl) rfl ?_
      refine TL.run1 (pure_pick_true rfl rfl) rfl ?_
      refine TL.cutEnd (by repeat (first | exact Same.refl _ _ | refine Same.put rfl ?_)) rfl ?_
      first | (simp only [decide_eq_true_eq, Bool.false_eq_true, false_iff, true_iff, iff_true, iff_false, Bool.not_eq_true]; omega) | (simp_all; done) | (simp_all; omega) | grind
    · try dsimp only at hg10
      refine TL.passG rfl rfl rfl rfl ?_
      refine TL.passG rfl rfl rfl rfl ?_
      refine TL.run1 (pure_pick_false rfl rfl) rfl ?_
      refine TL.cutEnd (by repeat (first | exact Same.refl _ _ | refine Same.put rfl ?_)) rfl ?_
      first | (simp only [decide_eq_true_eq, Bool.false_eq_true, false_iff, true_iff, iff_true, iff_false, Bool.not_eq_true]; omega) | (simp_all; done) | (simp_all; omega) | grind
  first | refine TC.condD rfl (fun hc13 => ?_) (fun hc13 => ?_) | refine TC.condN rfl (fun hc13 => ?_) (fun hc13 => ?_) | refine TC.cond rfl (fun hc13 => ?_) (fun hc13 => ?_)
  · try dsimp only at hc13
    refine TC.seq ?_
    refine TC.region ?_
    refine TL.run1 (pure_assign rfl) rfl ?_
    refine TL.nil' ?_
    refine TC.ret ?_
    refine then_ret ?_
    exact ret_int rfl (by unfold mergedN; first | rw [if_pos ‹_›] | rw [if_neg ‹_›])
  · try dsimp only at hc13
    refine TC.skip' ?_
    refine TC.seq ?_
    refine TC.region ?_
    refine TL.run1 (pure_move rfl) rfl ?_
    refine TL.run1 (pure_assign rfl) rfl ?_
    refine TL.nil' ?_
    refine TC.ret ?_
    exact ret_int rfl (by unfold mergedN; first | rw [if_pos ‹_›] | rw [if_neg ‹_›])
end Go.Ob
