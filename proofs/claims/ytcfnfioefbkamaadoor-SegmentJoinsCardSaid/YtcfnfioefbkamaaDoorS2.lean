import Derived.Test.YtcfnfioefbkamaaDoorS1
import Derived.Test.YtcfnfioefbkamaaDoorK2
import Derived.Test.YtcfnfioefbkamaaDoorN2
set_option linter.unusedVariables false
set_option linter.unusedSimpArgs false
namespace Go.Ob
open Go.Proofs
/-! ### scanning on -/
def scan (p : Nat → Bool) (n : Nat) : Nat → Nat → Nat
  | 0, k => k
  | f + 1, k => if k < n ∧ p k = true then scan p n f (k + 1) else k
theorem scan_eq (p : Nat → Bool) (n : Nat) : ∀ f k e, k ≤ e → e ≤ n → e ≤ k + f → (∀ j, k ≤ j → j < e → p j = true) → (e = n ∨ p e = false) → scan p n f k = e
  | 0, k, e, h1, _, h3, _, _ => by rw [scan]; omega
  | f + 1, k, e, h1, h2, h3, h4, h5 => by
    rw [scan]
    rcases Nat.eq_or_lt_of_le h1 with rfl | h
    · rw [if_neg]
      rintro ⟨a, b⟩
      rcases h5 with h | h
      · omega
      · rw [h] at b; cases b
    · rw [if_pos ⟨by omega, h4 k (Nat.le_refl _) h⟩]
      exact scan_eq p n f (k + 1) e h h2 (by omega) (fun j a b => h4 j (by omega) b) h5
theorem scan_spec (p : Nat → Bool) (n : Nat) : ∀ f k, k ≤ n → n ≤ k + f → k ≤ scan p n f k ∧ scan p n f k ≤ n ∧ (∀ j, k ≤ j → j < scan p n f k → p j = true) ∧ (scan p n f k = n ∨ p (scan p n f k) = false)
  | 0, k, h1, h2 => by rw [scan]; exact ⟨Nat.le_refl _, h1, fun j a b => by omega, .inl (by omega)⟩
  | f + 1, k, h1, h2 => by
    rw [scan]
    by_cases h : k < n ∧ p k = true
    · rw [if_pos h]
      obtain ⟨a, b, c, d⟩ := scan_spec p n f (k + 1) h.1 (by omega)
      refine ⟨by omega, b, fun j x y => ?_, d⟩
      rcases Nat.eq_or_lt_of_le x with rfl | x
      · exact h.2
      · exact c j x y
    · rw [if_neg h]
      refine ⟨Nat.le_refl _, h1, fun j a b => by omega, ?_⟩
      rcases Nat.lt_or_ge k n with hk | hk
      · right
        cases hp : p k with
        | false => rfl
        | true => exact absurd ⟨hk, hp⟩ h
      · left; omega
def scanF (p : Nat → Bool) (n k : Nat) : Nat := scan p n n k
theorem scanF_eq {p : Nat → Bool} {n k e : Nat} (h1 : k ≤ e) (h2 : e ≤ n) (h4 : ∀ j, k ≤ j → j < e → p j = true) (h5 : e = n ∨ p e = false) : scanF p n k = e := scan_eq p n n k e h1 h2 (by omega) h4 h5
theorem scanF_spec (p : Nat → Bool) {n k : Nat} (h : k ≤ n) : k ≤ scanF p n k ∧ scanF p n k ≤ n ∧ (∀ j, k ≤ j → j < scanF p n k → p j = true) ∧ (scanF p n k = n ∨ p (scanF p n k) = false) := scan_spec p n n k h (by omega)
/-! ### tokens over classes -/
def atI (c : List Int) (k : Int) : Int := if k < 0 ∨ k ≥ c.length then -1 else iAt c k
theorem atI_in {c : List Int} {k : Int} (h0 : 0 ≤ k) (h1 : k < c.length) : atI c k = iAt c k := by unfold atI; rw [if_neg (by omega)]
theorem atI_out {c : List Int} {k : Int} (h : k < 0 ∨ k ≥ c.length) : atI c k = -1 := by unfold atI; rw [if_pos h]
def InsP (c : List Int) (k : Nat) : Prop := iAt c k = 5 ∨ iAt c k = 6 ∨ (iAt c k = 11 ∧ atI c ((k : Int) - 1) = 5 ∧ atI c ((k : Int) + 1) = 5) ∨ (iAt c k = 10 ∧ atI c ((k : Int) - 1) = 6 ∧ atI c ((k : Int) + 1) = 6)
instance (c : List Int) (k : Nat) : Decidable (InsP c k) := by unfold InsP; infer_instance
def BlkP (c : List Int) (k : Nat) : Prop := iAt c k = 2 ∨ iAt c k = 3
instance (c : List Int) (k : Nat) : Decidable (BlkP c k) := by unfold BlkP; infer_instance
def WrdP (c : List Int) (i : Nat) : Prop := iAt c i = 5 ∨ iAt c i = 6
instance (c : List Int) (k : Nat) : Decidable (WrdP c k) := by unfold WrdP; infer_instance
def endT (c : List Int) (i : Nat) : Nat := if WrdP c i then scanF (fun k => decide (InsP c k)) c.length (i + 1) else if BlkP c i then scanF (fun k => decide (BlkP c k)) c.length (i + 1) else i + 1
/-- Letter among the first n behind i -/
def wkTo (c : List Int) (i : Nat) : Nat → Int
  | 0 => 2
  | n + 1 => if iAt c ((i + n : Nat) : Int) = 5 then 1 else wkTo c i n
def kindT (c : List Int) (i : Nat) : Int := if WrdP c i then wkTo c i (endT c i - i) else if BlkP c i then 3 else if iAt c i = 1 then 6 else if iAt c i = 7 then 5 else 4
theorem endT_spec {c : List Int} {i : Nat} (h : i < c.length) : i < endT c i ∧ endT c i ≤ c.length := by
  unfold endT
  split
  · have := scanF_spec (fun k => decide (InsP c k)) (show i + 1 ≤ c.length by omega); omega
  · split
    · have := scanF_spec (fun k => decide (BlkP c k)) (show i + 1 ≤ c.length by omega); omega
    · omega
theorem endW_eq {c : List Int} {i e : Nat} (hw : WrdP c i) (h1 : i < e) (h2 : e ≤ c.length) (h3 : ∀ j, i < j → j < e → InsP c j) (h4 : e = c.length ∨ ¬ InsP c e) : endT c i = e := by
  unfold endT; rw [if_pos hw]
  exact scanF_eq h1 h2 (fun j a b => decide_eq_true (h3 j a b)) (h4.imp id decide_eq_false)
theorem endB_eq {c : List Int} {i e : Nat} (hw : ¬ WrdP c i) (hb : BlkP c i) (h1 : i < e) (h2 : e ≤ c.length) (h3 : ∀ j, i < j → j < e → BlkP c j) (h4 : e = c.length ∨ ¬ BlkP c e) : endT c i = e := by
  unfold endT; rw [if_neg hw, if_pos hb]
  exact scanF_eq h1 h2 (fun j a b => decide_eq_true (h3 j a b)) (h4.imp id decide_eq_false)
theorem endO_eq {c : List Int} {i : Nat} (hw : ¬ WrdP c i) (hb : ¬ BlkP c i) : endT c i = i + 1 := by unfold endT; rw [if_neg hw, if_neg hb]
/-- where the m-th token begins -/
def posT (c : List Int) : Nat → Nat
  | 0 => 0
  | m + 1 => if posT c m < c.length then endT c (posT c m) else posT c m
theorem posT_le (c : List Int) : ∀ m, posT c m ≤ c.length
  | 0 => Nat.zero_le _
  | m + 1 => by
    have ih := posT_le c m
    rw [posT]; split
    · exact (endT_spec ‹_›).2
    · exact ih
theorem posT_lt {c : List Int} {m : Nat} (h : posT c m < c.length) : posT c m < posT c (m + 1) := by rw [posT, if_pos h]; exact (endT_spec h).1
theorem posT_mono (c : List Int) {i j : Nat} (h : i ≤ j) : posT c i ≤ posT c j := by
  induction h with
  | refl => exact Nat.le_refl _
  | step _ ih =>
    refine Nat.le_trans ih ?_
    rw [posT]; split
    · exact Nat.le_of_lt (endT_spec ‹_›).1
    · exact Nat.le_refl _
theorem posT_ge (c : List Int) : ∀ m, m ≤ posT c m ∨ posT c m = c.length
  | 0 => .inl (Nat.zero_le _)
  | m + 1 => by
    rcases Nat.lt_or_ge (posT c m) c.length with h | h
    · have := posT_lt h
      rcases posT_ge c m with h2 | h2
      · left; omega
      · omega
    · right
      have := posT_le c m
      rw [posT, if_neg (by omega)]; omega
/-- how many tokens -/
def nT (c : List Int) : Nat := scanF (fun m => decide (posT c m < c.length)) c.length 0
theorem nT_lt {c : List Int} {m : Nat} : m < nT c ↔ posT c m < c.length := by
  obtain ⟨h1, h2, h3, h4⟩ := scanF_spec (fun m => decide (posT c m < c.length)) (Nat.zero_le c.length)
  constructor
  · intro h; exact of_decide_eq_true (h3 m (Nat.zero_le _) h)
  · intro h
    rcases Nat.lt_or_ge m (nT c) with hm | hm
    · exact hm
    · exfalso
      have hmo := posT_mono c hm
      rcases h4 with h4 | h4
      · have h5 : nT c = c.length := h4
        rcases posT_ge c (nT c) with h6 | h6 <;> omega
      · have h5 : ¬ posT c (nT c) < c.length := of_decide_eq_false h4
        omega
theorem nT_end (c : List Int) : posT c (nT c) = c.length := by
  have h := posT_le c (nT c)
  have h2 : ¬ posT c (nT c) < c.length := fun e => by have := nT_lt.2 e; omega
  omega
theorem nT_le (c : List Int) : nT c ≤ c.length := (scanF_spec (fun m => decide (posT c m < c.length)) (Nat.zero_le c.length)).2.1
theorem nT_eq {c : List Int} {m : Nat} (h : ∀ j, j < m → posT c j < c.length) (he : ¬ posT c m < c.length) : nT c = m := by
  rcases Nat.lt_trichotomy (nT c) m with h1 | h1 | h1
  · have := h _ h1; rw [nT_end] at this; omega
  · exact h1
  · exact absurd (nT_lt.1 h1) he
def tkAt (c b : List Int) (m : Nat) : List D := [.v (.int .i64 (kindT c (posT c m))), .v (.int .i64 (iAt b (posT c m))), .v (.int .i64 (iAt b (posT c (m + 1))))]
def encTk (c b : List Int) : List (List D) := (List.range (nT c)).map (tkAt c b)
theorem encTk_len (c b : List Int) : (encTk c b).length = nT c := by simp [encTk]
theorem encTk_get (c b : List Int) (m : Nat) (h : m < nT c) : (encTk c b)[m]? = some (tkAt c b m) := by simp [encTk, h]
theorem encTk_each (c b : List Int) : ∀ x ∈ encTk c b, x.length = 3 := by
  intro x hx; simp only [encTk, List.mem_map] at hx; obtain ⟨m, _, rfl⟩ := hx; rfl
theorem encTk_take (c b : List Int) (m : Nat) (h : m < nT c) : (encTk c b).take (m + 1) = (encTk c b).take m ++ [tkAt c b m] := take_get (encTk_get c b m h)
/-! ### clusters -/
def clK (c b : List Int) (i : Nat) : List D := [.v (.int .i64 (iAt c i)), .v (.int .i64 (iAt b i)), .v (.int .i64 (iAt b ((i + 1 : Nat) : Int)))]
def encK (c b : List Int) : List (List D) := (List.range c.length).map (clK c b)
theorem encK_len (c b : List Int) : (encK c b).length = c.length := by simp [encK]
theorem encK_get (c b : List Int) (i : Nat) (h : i < c.length) : (encK c b)[i]? = some (clK c b i) := by simp [encK, h]
theorem encK_each (c b : List Int) : ∀ x ∈ encK c b, x.length = 3 := by
  intro x hx; simp only [encK, List.mem_map] at hx; obtain ⟨m, _, rfl⟩ := hx; rfl
theorem encK_take (c b : List Int) (m : Nat) (h : m < c.length) : (encK c b).take (m + 1) = (encK c b).take m ++ [clK c b m] := take_get (encK_get c b m h)
theorem encKd_len (c b : List Int) (i : Nat) : ((encK c b).drop i).length = c.length - i := by rw [List.length_drop, encK_len]
theorem encKd_get (c b : List Int) (i n : Nat) (h : i + n < c.length) : ((encK c b).drop i)[n]? = some (clK c b (i + n)) := by
  rw [List.getElem?_drop]; exact encK_get c b _ h
theorem slice_drop (c b : List Int) (i e : Nat) (h1 : i ≤ e) : (((encK c b).drop i).take ((encK c b).drop i).length).drop (e - i) = (encK c b).drop e := by
  rw [List.take_length, List.drop_drop, show i + (e - i) = e by omega]
def scL (s : ByteArray) : List Int := (List.range (cAll (cls s)).length).map fun i => clsS (iAt (pts s) (iAt (bnds (cls s)) ((i : Nat) : Int)))
theorem scL_len (s : ByteArray) : (scL s).length = (cAll (cls s)).length := by simp [scL]
theorem scL_get (s : ByteArray) (i : Nat) (h : i < (cAll (cls s)).length) : iAt (scL s) i = clsS (iAt (pts s) (iAt (bnds (cls s)) i)) := by
  unfold iAt scL
  rw [Int.toNat_natCast]
  simp [List.getD_eq_getElem?_getD, h, iAt]
def kluV (s : ByteArray) : List (List D) := if okS s = true then encK (scL s) (bnds (cls s)) else []
def tokV (s : ByteArray) : List (List D) := if okS s = true then encTk (scL s) (bnds (cls s)) else []
/-! ### a number in a list -/
def IdxAt (l : List Int) (x v : Int) : Prop := (v = -1 ∧ ¬ x ∈ l) ∨ ∃ k : Nat, v = k ∧ k < l.length ∧ iAt l k = x ∧ ∀ j : Nat, j < k → iAt l j ≠ x
theorem iAt_mem (m : List Int) (i : Nat) (h : i < m.length) : iAt m i ∈ m := by
  unfold iAt
  rw [Int.toNat_natCast, List.getD_eq_getElem?_getD, List.getElem?_eq_getElem h]
  exact List.getElem_mem h
theorem iAt_of {m : List Int} {x : Int} (h : x ∈ m) : ∃ i : Nat, i < m.length ∧ iAt m i = x := by
  obtain ⟨j, hj, rfl⟩ := List.getElem_of_mem h
  refine ⟨j, hj, ?_⟩
  unfold iAt
  rw [Int.toNat_natCast, List.getD_eq_getElem?_getD, List.getElem?_eq_getElem hj]; rfl
theorem idx_exists (l : List Int) (x : Int) : ∃ v, IdxAt l x v := by
  by_cases h : x ∈ l
  · obtain ⟨i, hi, hx⟩ := iAt_of h
    obtain ⟨m, h1, h2, h3⟩ := least_of (p := fun k : Nat => iAt l k = x) i hx
    exact ⟨m, .inr ⟨m, rfl, by omega, h2, h3⟩⟩
  · exact ⟨-1, .inl ⟨rfl, h⟩⟩
theorem IdxAt.dec {l : List Int} {x v : Int} (h : IdxAt l x v) : decide (v ≥ 0) = decide (x ∈ l) := by
  rcases h with ⟨rfl, h⟩ | ⟨k, rfl, h1, h2, _⟩
  · rw [decide_eq_false h]; rfl
  · have hm : x ∈ l := by rw [← h2]; exact iAt_mem l k h1
    rw [decide_eq_true (show (k : Int) ≥ 0 by omega)]; exact (decide_eq_true hm).symm
theorem ins_mid (c : List Int) (i n : Nat) (x y : Int) (hn : 0 < n) (hy : y ≠ -1) : (iAt c ((i + n : Nat) : Int) = x ∧ atI c (((i + n : Nat) : Int) - 1) = y ∧ atI c (((i + n : Nat) : Int) + 1) = y) ↔ (0 < n ∧ i + n + 1 < c.length ∧ iAt c ((i + n : Nat) : Int) = x ∧ iAt c ((i + (n - 1) : Nat) : Int) = y ∧ iAt c ((i + (n + 1) : Nat) : Int) = y) := by
  have e1 : ((i + n : Nat) : Int) - 1 = ((i + (n - 1) : Nat) : Int) := by omega
  have e2 : ((i + n : Nat) : Int) + 1 = ((i + (n + 1) : Nat) : Int) := by omega
  rw [e1, e2]
  constructor
  · rintro ⟨h1, h2, h3⟩
    have hin : i + n + 1 < c.length := by
      rcases Nat.lt_or_ge (i + n + 1) c.length with h | h
      · exact h
      · rw [atI_out (c := c) (.inr (by omega))] at h3; exact absurd h3.symm hy
    rw [atI_in (by omega) (by omega)] at h2 h3
    exact ⟨hn, hin, h1, h2, h3⟩
  · rintro ⟨_, hin, h1, h2, h3⟩
    rw [atI_in (by omega) (by omega), atI_in (by omega) (by omega)]
    exact ⟨h1, h2, h3⟩
theorem mem_pr {a b x : Int} : x ∈ [a, b] ↔ x = a ∨ x = b := by simp
set_option maxRecDepth 100000 in
theorem CPoints_spec (s : ByteArray) (hs : s.size ≤ 1000000000) : Fun Tryd.prog 53 [.v (.string s)] (.tup [.sl 1 (encI (ptsV s)), .v (.int .i64 (errU s))]) := by
  refine Fun.enterF (n := 29) (rs := [.tmp 2, .tmp 3]) Tryd.func53 rfl Tryd.ntmps53 Tryd.results53 rfl (fun w F => ?_); refine TC.seq ?_; refine TC.region ?_; (iterate 2 refine TL.run1 (pure_assign rfl) rfl ?_); refine TL.nil' ?_; (iterate 2 refine TC.seq ?_); refine TC.nilrow 3 1 ?_; refine TC.region ?_; refine TL.run1 (pure_assign rfl) rfl ?_; refine TL.nil' ?_; refine TC.block ?_; refine TC.loopX (X := Nat × Value) (fun (k, v) => [(0, .v (.string s)), (2, .v v), (4, .v (.int .i64 (rpos s k : Nat)))]) (fun (k, v) => [.row v 3 1 (encI (ptsTo s k))]) (fun (k, v) => (rpos s k ≤ s.size) ∧ (∀ j, j < k → ¬ BadAt s (rpos s j))) (fun (k, v) => s.size - rpos s k) (0, .slice none 0 0) ⟨by skip; repeat (first | exact Agree.nil | refine Agree.cons rfl ?_), by skip; repeat (first | exact List.nil_sublist _ | exact List.Sublist.refl _ | apply List.Sublist.cons_cons | apply List.Sublist.cons)⟩ ?_ ?_
  · skip
    exact ⟨Nat.zero_le _, fun j h => by omega⟩
  rintro ⟨k, v⟩
  rintro ⟨k1, k2⟩
  show TC _ _ _ (Env.of [(0, .v (.string s)), (2, .v v), (4, .v (.int .i64 (rpos s k : Nat)))]) [.row v 3 1 (encI (ptsTo s k))]
  (iterate 2 refine TC.seq ?_); refine TC.region ?_; (iterate 2 refine TL.run1 (pure_move rfl) rfl ?_); refine TL.run1 (pure_len_str Tryd.underlying9 rfl) rfl ?_; refine TL.run1 (pure_lss rfl rfl) rfl ?_; refine TL.nil' ?_; refine TC.condD rfl (fun hc11 => ?_) (fun hc11 => ?_)
  · try dsimp only at hc11
    refine TC.skip' ?_; refine TC.block ?_; refine TC.seq ?_; refine TC.region ?_; (iterate 2 refine TL.run1 (pure_move rfl) rfl ?_); refine TL.run1 (pure_call (decode_spec s (rpos s k) (by omega) hs) (.cons rfl (.cons rfl .nil)) Tryd.call78) rfl ?_; refine TL.run1 (pure_move rfl) rfl ?_; (iterate 3 refine TL.run1 (pure_extract rfl rfl) rfl ?_); (iterate 3 refine TL.run1 (pure_assign rfl) rfl ?_); refine TL.nil' ?_; (iterate 2 refine TC.seq ?_); refine TC.region ?_; refine TL.run1 (pure_move rfl) rfl ?_; refine TL.run1 (pure_not rfl) rfl ?_; refine TL.nil' ?_; refine TC.cond rfl (fun hc20 => ?_) (fun hc20 => ?_)
    · try dsimp only at hc20
      have hbad : BadAt s (rpos s k) := by simpa using hc20
      refine TC.seq ?_; refine TC.nilrow 3 1 ?_; refine TC.region ?_; (iterate 2 refine TL.run1 (pure_assign rfl) rfl ?_); refine TL.nil' ?_; refine TC.ret ?_; refine then_ret ?_; refine block_ret ?_; refine loop_ret ?_; refine block_ret ?_; refine then_ret ?_
      have hok := okS_false (show rpos s k < s.size by omega) hbad
      unfold ptsV errU; rw [hok]
      exact retF2 (.inl rfl) rfl rfl (.tupL (.cons (.rowS (v := .slice none 0 0) (e := 3) (xs := []) (by repeat (first | exact List.Mem.head _ | apply List.Mem.tail)) (by decide) (by simp)) (.cons (.same _) .nil)))
    · try dsimp only at hc20
      have hnb : ¬ BadAt s (rpos s k) := by simpa using hc20
      have hz0 : cpZ s (rpos s k) = ((Utf8.decode s (rpos s k)).2 : Int) := by (unfold cpZ; rw [if_neg hnb])
      have hin0 := dc_in s (rpos s k) (by omega)
      refine TC.skip' ?_; refine TC.seq ?_
      have hkl := encI_len (ptsTo s k)
      have hpl := ptsTo_len s k
      have hge := rpos_ge s k
      refine TC.region ?_; (iterate 2 refine TL.run1 (pure_move rfl) rfl ?_); refine TL.run1 (pure_buildSlice (xs := [.tmp 22]) Ty.app35 (by decide) rfl rfl (.cons rfl (.one rfl) rfl .nil)) rfl ?_; refine TL.append Ty.app35 rfl rfl (by intro _; repeat (first | exact UpdR.here _ | apply UpdR.there)) (by simp only [List.length_append, List.length_cons, List.length_nil]; omega) (by simp only [List.length_append, List.length_cons, List.length_nil]; omega) rfl (fun v24 hv24 => ?_); refine TL.run1 (pure_assign rfl) rfl ?_; refine TL.nil' ?_; refine TC.region ?_; (iterate 2 refine TL.run1 (pure_move rfl) rfl ?_); refine TL.run1 (pure_add rfl rfl (mkI64 (by omega) (by omega))) rfl ?_; refine TL.run1 (pure_assign rfl) rfl ?_; refine TL.nil ?_; refine block_normal ?_
      have hst : ((rpos s (k + 1) : Nat) : Int) = (rpos s k : Int) + cpZ s (rpos s k) := by rw [hz0, rpos]; omega
      have hps := dc_pos s (rpos s k)
      have hrp : rpos s (k + 1) = rpos s k + (Utf8.decode s (rpos s k)).2 := rfl
      have hpt : ptN s k = cpP s (rpos s k) := by unfold ptN cpP; rw [if_neg hnb]
      refine loop_next (k + 1, v24) ⟨by (dsimp only; rw [hst]; repeat (first | exact Agree.nil | refine Agree.cons rfl ?_)), by dsimp only; rw [ptsTo_succ, encI_snoc, hpt]; repeat (first | exact List.nil_sublist _ | exact List.Sublist.refl _ | apply List.Sublist.cons_cons | apply List.Sublist.cons)⟩ ⟨by omega, fun j h => by rcases Nat.lt_or_eq_of_le (Nat.le_of_lt_succ h) with h | h; exact k2 j h; rw [h]; exact hnb⟩ (by dsimp only; omega)
  · try dsimp only at hc11
    refine TC.exit ?_; refine then_exit ?_; refine loop_exit ?_; refine block_here ?_; refine then_normal ?_; refine TC.seq ?_; refine TC.region ?_; refine TL.run1 (pure_move rfl) rfl ?_; (iterate 2 refine TL.run1 (pure_assign rfl) rfl ?_); refine TL.nil' ?_; refine TC.ret ?_
    have hk : k = nR s := nR_eq (by omega)
    subst hk
    have hok : okS s = true := decide_eq_true fun j hj => k2 j hj
    unfold ptsV errU; rw [hok]
    exact retF2 (.inl rfl) rfl rfl (.tupL (.cons (.rowS (by repeat (first | exact List.Mem.head _ | apply List.Mem.tail)) (by decide) (encI_each _)) (.cons (.same _) .nil)))
set_option maxRecDepth 100000 in
theorem Index_spec (l : List Int) (x v : Int) (hv : IdxAt l x v) (hl : l.length ≤ 1000000) : Fun Tryd.prog 96 [.sl 1 (encI l), .v (.int .i64 x)] (.v (.int .i64 v)) := by
  refine Fun.enter (n := 19) (rs := [.tmp 4]) Tryd.func96 rfl Tryd.ntmps96 Tryd.results96 rfl (fun w F => ?_)
  have hk := encI_len l
  refine TC.seq ?_; refine TC.region ?_; refine TL.run1 (pure_assign rfl) rfl ?_; refine TL.nil' ?_; (iterate 2 refine TC.seq ?_); refine TC.region ?_; refine TL.run1 (pure_move rfl) rfl ?_; refine TL.run1 (pure_len Ty.sl35 rfl) rfl ?_; refine TL.run1 (pure_move rfl) rfl ?_; refine TL.nil' ?_; refine TC.block ?_; refine TC.loopX (X := Nat) (fun k => [(0, .sl 1 (encI l)), (1, .v (.int .i64 x)), (7, .v (.int .i64 (encI l).length)), (8, .v (.int .i64 k))]) (fun k => []) (fun k => (k ≤ l.length) ∧ (∀ j : Nat, j < k → iAt l j ≠ x)) (fun k => l.length - k) (0) ⟨by skip; repeat (first | exact Agree.nil | refine Agree.cons rfl ?_), by skip; repeat (first | exact List.nil_sublist _ | exact List.Sublist.refl _ | apply List.Sublist.cons_cons | apply List.Sublist.cons)⟩ ?_ ?_
  · skip
    exact ⟨Nat.zero_le _, fun j h => by omega⟩
  intro k
  rintro ⟨h1, h2⟩
  show TC _ _ _ (Env.of [(0, .sl 1 (encI l)), (1, .v (.int .i64 x)), (7, .v (.int .i64 (encI l).length)), (8, .v (.int .i64 k))]) []
  refine TC.seq ?_; refine TC.region ?_; refine TL.run1 (pure_lss rfl rfl) rfl ?_; refine TL.nil' ?_; refine TC.seq ?_; refine TC.condD rfl (fun hc9 => ?_) (fun hc9 => ?_)
  · try dsimp only at hc9
    refine TC.skip' ?_; refine TC.seq ?_; refine TC.block ?_; refine TC.seq ?_; refine TC.region ?_; refine TL.run1 (pure_move rfl) rfl ?_; refine TL.run1 (pure_assign rfl) rfl ?_; refine TL.nil' ?_; refine TC.seq ?_
    have hrow : (encI l)[((k : Nat) : Int).toNat]? = some [.v (.int .i64 (iAt l k))] := encI_get l k (by omega) (by omega)
    refine TC.region ?_; (iterate 3 refine TL.run1 (pure_move rfl) rfl ?_); refine TL.run1 (pure_indexAddr Ty.sl35 rfl rfl (by omega) (by assumption) (List.cons_ne_nil _ _)) rfl ?_; refine TL.run1 (pure_load1 Ty.one3 rfl) rfl ?_; refine TL.run1 (pure_eql rfl rfl) rfl ?_; refine TL.nil' ?_; refine TC.condD rfl (fun hc16 => ?_) (fun hc16 => ?_)
    · try dsimp only at hc16
      refine TC.seq ?_; refine TC.region ?_; refine TL.run1 (pure_move rfl) rfl ?_; refine TL.run1 (pure_assign rfl) rfl ?_; refine TL.nil' ?_; refine TC.ret ?_; refine block_ret ?_; refine then_ret ?_; refine loop_ret ?_; refine block_ret ?_; refine then_ret ?_
      exact ret_int rfl (by rcases hv with ⟨_, h⟩ | ⟨m, rfl, m1, m2, m3⟩; exact absurd (hc16 ▸ iAt_mem l k (by omega)) h; rcases Nat.lt_trichotomy k m with h | h | h; exact absurd hc16.symm (m3 k h); rw [h]; exact absurd m2 (h2 m h))
    · try dsimp only at hc16
      refine TC.skip ?_; refine block_normal ?_; refine then_normal ?_; refine TC.region ?_; refine TL.run1 (pure_add rfl rfl (mkI64 (by omega) (by omega))) rfl ?_; refine TL.run1 (pure_move rfl) rfl ?_; refine TL.nil ?_; refine loop_next (k + 1) ⟨by ((try dsimp only); rw [show (((k + 1 : Nat)) : Int) = (k : Int) + 1 by omega]; repeat (first | exact Agree.nil | refine Agree.cons rfl ?_)), by repeat (first | exact List.nil_sublist _ | exact List.Sublist.refl _ | apply List.Sublist.cons_cons | apply List.Sublist.cons)⟩ ⟨by omega, fun j h => by rcases Nat.lt_or_eq_of_le (Nat.le_of_lt_succ h) with h | h; exact h2 j h; rw [h]; exact fun e => hc16 e.symm⟩ (by omega)
  · try dsimp only at hc9
    refine TC.exit ?_; refine then_exit ?_; refine loop_exit ?_; refine block_here ?_; refine then_normal ?_; refine TC.seq ?_; refine TC.region ?_; refine TL.run1 (pure_assign rfl) rfl ?_; refine TL.nil' ?_; refine TC.ret ?_
    exact ret_int rfl (by rcases hv with ⟨h, _⟩ | ⟨m, rfl, m1, m2, m3⟩; exact h.symm; exact absurd m2 (h2 m (by omega)))
set_option maxRecDepth 100000 in
theorem Contains_spec (l : List Int) (x : Int) (hl : l.length ≤ 1000000) : Fun Tryd.prog 85 [.sl 1 (encI l), .v (.int .i64 x)] (.v (.bool (decide (x ∈ l)))) := by
  obtain ⟨v, hv⟩ := idx_exists l x
  refine Fun.enter (n := 9) (rs := [.tmp 4]) Tryd.func85 rfl Tryd.ntmps85 Tryd.results85 rfl (fun w F => ?_); refine TC.seq ?_; refine TC.region ?_; refine TL.run1 (pure_assign rfl) rfl ?_; refine TL.nil' ?_; refine TC.seq ?_; refine TC.region ?_; (iterate 2 refine TL.run1 (pure_move rfl) rfl ?_); refine TL.run1 (pure_call (Index_spec l x v hv hl) (.cons rfl (.cons rfl .nil)) Tryd.call96) rfl ?_; refine TL.run1 (pure_geq rfl rfl) rfl ?_; refine TL.run1 (pure_assign rfl) rfl ?_; refine TL.nil' ?_; refine TC.ret ?_
  exact ret_bool rfl hv.dec
set_option maxRecDepth 100000 in
theorem is_spec (x y z : Int) (l : List Int) (hl : l.length ≤ 1000000) : Fun Tryd.prog 66 [.agg [.v (.int .i64 x), .v (.int .i64 y), .v (.int .i64 z)], .sl 1 (encI l)] (.v (.bool (decide (x ∈ l)))) := by
  refine Fun.enter (n := 9) (rs := [.tmp 4]) Tryd.func66 rfl Tryd.ntmps66 Tryd.results66 rfl (fun w F => ?_); refine TC.seq ?_; refine TC.region ?_; refine TL.box rfl (.agg _) rfl (fun g2 => ?_); refine TL.run1 (pure_assign rfl) rfl ?_; refine TL.nil' ?_; refine TC.seq ?_; refine TC.region ?_; refine TL.run1 (pure_move rfl) rfl ?_; refine TL.run1 (pure_fieldAddr_own Ty.f77_0 rfl) rfl ?_; refine TL.run1 (pure_load1_own Ty.one3 rfl (by repeat (first | exact List.Mem.head _ | apply List.Mem.tail)) (by repeat (first | exact DropR.zero _ | apply DropR.succ))) rfl ?_; refine TL.run1 (pure_call (Contains_spec l x hl) (.cons rfl (.cons rfl .nil)) Tryd.call85) rfl ?_; refine TL.run1 (pure_assign rfl) rfl ?_; refine TL.nil' ?_; refine TC.ret ?_
  exact ret_bool rfl rfl

theorem errU_bad0 {s : ByteArray} (h : errU s ≠ 0) : okS s = false := by
  unfold errU at h
  cases hb : okS s with
  | false => rfl
  | true => rw [hb] at h; exact absurd rfl h
theorem errU_ok0 {s : ByteArray} (h : ¬ errU s ≠ 0) : okS s = true := by
  unfold errU at h
  cases hb : okS s with
  | true => rfl
  | false => rw [hb] at h; exact absurd (by decide) h
theorem cAll_start (s : ByteArray) (k : Nat) (h : k < (cAll (cls s)).length) : 0 ≤ iAt (bnds (cls s)) k ∧ iAt (bnds (cls s)) k < nR s := by
  have h1 := cAll_fst (cls s) k h
  have h2 : (cAll (cls s)).getD k (0, 0) ∈ cAll (cls s) := by
    rw [List.getD_eq_getElem?_getD, List.getElem?_eq_getElem h]; exact List.getElem_mem h
  obtain ⟨_, h3, h4⟩ := cAll_mem h2
  rw [cls_len] at h3
  rw [h1]; omega
theorem okV {s : ByteArray} (h : okS s = true) : ptsV s = pts s ∧ offsV s = offs s ∧ bndV s = bnds (cls s) ∧ True ∧ errU s = 0 := by
  unfold ptsV offsV bndV errU; rw [h]; exact ⟨rfl, rfl, rfl, trivial, rfl⟩
theorem badV {s : ByteArray} (h : okS s = false) : ptsV s = [] ∧ offsV s = [] ∧ bndV s = [] ∧ True ∧ errU s = 12 := by
  unfold ptsV offsV bndV errU; rw [h]; exact ⟨rfl, rfl, rfl, trivial, rfl⟩
set_option maxRecDepth 100000 in
theorem clusters3_spec (s : ByteArray) (hs : s.size ≤ 1000000000) : Fun Tryd.prog 30 [.v (.string s)] (.tup [.sl 3 (kluV s), .v (.int .i64 (errU s))]) := by
  refine Fun.enterF (n := 56) (rs := [.tmp 2, .tmp 3]) Tryd.func30 rfl Tryd.ntmps30 Tryd.results30 rfl (fun w F => ?_); refine TC.seq ?_; refine TC.region ?_; (iterate 2 refine TL.run1 (pure_assign rfl) rfl ?_); refine TL.nil' ?_; refine TC.seq ?_; refine TC.region ?_; refine TL.run1 (pure_move rfl) rfl ?_; refine TL.run1 (pure_call (CPoints_spec s hs) (.cons rfl .nil) Tryd.call53) rfl ?_; refine TL.run1 (pure_move rfl) rfl ?_; (iterate 2 refine TL.run1 (pure_extract rfl rfl) rfl ?_); (iterate 2 refine TL.run1 (pure_assign rfl) rfl ?_); refine TL.nil' ?_; (iterate 2 refine TC.seq ?_); refine TC.region ?_; refine TL.run1 (pure_move rfl) rfl ?_; refine TL.run1 (pure_neq rfl rfl) rfl ?_; refine TL.nil' ?_; refine TC.condD rfl (fun hc16 => ?_) (fun hc16 => ?_)
  · try dsimp only at hc16
    have hok : okS s = false := errU_bad0 hc16
    refine TC.seq ?_; refine TC.nilrow 77 3 ?_; refine TC.region ?_; (iterate 2 refine TL.run1 (pure_assign rfl) rfl ?_); refine TL.nil' ?_; refine TC.ret ?_; refine then_ret ?_
    unfold kluV errU; rw [hok]
    exact retF2 (.inl rfl) rfl rfl (.tupL (.cons (.rowS (v := .slice none 0 0) (e := 77) (xs := []) (by repeat (first | exact List.Mem.head _ | apply List.Mem.tail)) (by decide) (by simp)) (.cons (.same _) .nil)))
  · try dsimp only at hc16
    have hok : okS s = true := errU_ok0 hc16
    obtain ⟨v1, _, v3, _, v5⟩ := okV hok
    refine TC.skip' ?_; refine TC.seq ?_
    rw [v1]
    refine TC.region ?_; refine TL.run1 (pure_move rfl) rfl ?_; refine TL.run1 (pure_call (Boundaries_spec s hs) (.cons rfl .nil) Tryd.call54) rfl ?_; refine TL.run1 (pure_move rfl) rfl ?_; (iterate 2 refine TL.run1 (pure_extract rfl rfl) rfl ?_); (iterate 2 refine TL.run1 (pure_assign rfl) rfl ?_); refine TL.nil' ?_; (iterate 2 refine TC.seq ?_); refine TC.region ?_; refine TL.run1 (pure_move rfl) rfl ?_; refine TL.run1 (pure_neq rfl rfl) rfl ?_; refine TL.nil' ?_; refine TC.condD rfl (fun hc23 => ?_) (fun hc23 => ?_)
    · try dsimp only at hc23
      exact absurd v5 hc23
    · try dsimp only at hc23
      rw [v3]
      have hkb := encI_len (bnds (cls s))
      have hkp := encI_len (pts s)
      have hpl := pts_len s
      have hnl := nR_le s
      have hbl : (bnds (cls s)).length = (cAll (cls s)).length + 1 := ends_len _
      have hcl := cAll_len_le (cls s)
      rw [cls_len] at hcl
      refine TC.skip' ?_; refine TC.seq ?_; refine TC.region ?_; refine TL.run1 (pure_call (table3_spec) .nil Tryd.call45) rfl ?_; refine TL.run1 (pure_assign rfl) rfl ?_; refine TL.nil' ?_; refine TC.seq ?_; refine TC.region ?_; refine TL.run1 (pure_assign rfl) rfl ?_; refine TL.nil' ?_; (iterate 2 refine TC.seq ?_); refine TC.nilrow 77 3 ?_; refine TC.region ?_; refine TL.run1 (pure_assign rfl) rfl ?_; refine TL.nil' ?_; refine TC.block ?_; refine TC.loopX (X := Nat × Value) (fun (k, v) => [(4, .sl 1 (encI (pts s))), (6, .sl 1 (encI (bnds (cls s)))), (7, .sl 3 (encS segT)), (8, .v v), (9, .v (.int .i64 ((k + 1 : Nat) : Int)))]) (fun (k, v) => [.row v 77 3 ((encK (scL s) (bnds (cls s))).take k)]) (fun (k, v) => (k ≤ (cAll (cls s)).length)) (fun (k, v) => (cAll (cls s)).length - k) (0, .slice none 0 0) ⟨by skip; repeat (first | exact Agree.nil | refine Agree.cons rfl ?_), by skip; repeat (first | exact List.nil_sublist _ | exact List.Sublist.refl _ | apply List.Sublist.cons_cons | apply List.Sublist.cons)⟩ ?_ ?_
      · skip
        exact Nat.zero_le _
      rintro ⟨k, v⟩
      intro h1
      show TC _ _ _ (Env.of [(4, .sl 1 (encI (pts s))), (6, .sl 1 (encI (bnds (cls s)))), (7, .sl 3 (encS segT)), (8, .v v), (9, .v (.int .i64 ((k + 1 : Nat) : Int)))]) [.row v 77 3 ((encK (scL s) (bnds (cls s))).take k)]
      (iterate 2 refine TC.seq ?_); refine TC.region ?_; (iterate 2 refine TL.run1 (pure_move rfl) rfl ?_); refine TL.run1 (pure_len Ty.sl35 rfl) rfl ?_; refine TL.run1 (pure_lss rfl rfl) rfl ?_; refine TL.nil' ?_; refine TC.condD rfl (fun hc29 => ?_) (fun hc29 => ?_)
      · try dsimp only at hc29
        refine TC.skip' ?_; refine TC.seq ?_; refine TC.block ?_
        have hbb := cAll_start s k (by omega)
        obtain ⟨m, hm⟩ : ∃ m : Nat, iAt (bnds (cls s)) k = m := ⟨(iAt (bnds (cls s)) k).toNat, by omega⟩
        have hrb : (encI (bnds (cls s)))[(((k + 1 : Nat) : Int) - 1).toNat]? = some [.v (.int .i64 (iAt (bnds (cls s)) k))] := by (rw [show (((k + 1 : Nat) : Int) - 1).toNat = ((k : Nat) : Int).toNat by omega]; exact encI_get (bnds (cls s)) k (by omega) (by omega))
        have hrp : (encI (pts s))[(iAt (bnds (cls s)) k).toNat]? = some [.v (.int .i64 (iAt (pts s) (iAt (bnds (cls s)) k)))] := encI_get (pts s) (iAt (bnds (cls s)) k) (by omega) (by omega)
        have hrc : (encI (bnds (cls s)))[((k + 1 : Nat) : Int).toNat]? = some [.v (.int .i64 (iAt (bnds (cls s)) ((k + 1 : Nat) : Int)))] := encI_get (bnds (cls s)) ((k + 1 : Nat) : Int) (by omega) (by omega)
        refine TC.drawTailN 22 Ty.follows (by kernel_rfl) (by kernel_rfl) ?_
        simp only [List.take_succ_cons, List.take_zero, List.drop_succ_cons, List.drop_zero]
        (iterate 5 refine TD.run1 (pure_move rfl) rfl ?_); refine TD.run1 (pure_sub rfl rfl (mkI64 (by omega) (by omega))) rfl ?_; refine TD.run1 (pure_indexAddr Ty.sl35 rfl rfl (by omega) hrb (List.cons_ne_nil _ _)) rfl ?_; refine TD.run1 (pure_load1 Ty.one3 rfl) rfl ?_; refine TD.run1 (pure_indexAddr Ty.sl35 rfl rfl (by omega) hrp (List.cons_ne_nil _ _)) rfl ?_; refine TD.run1 (pure_load1 Ty.one3 rfl) rfl ?_; refine TD.run1 (pure_call (find_spec segT (iAt (pts s) (iAt (bnds (cls s)) k)) segT_apart (by rw [segT_len]; omega)) (.cons rfl (.cons rfl .nil)) Tryd.call44) rfl ?_; (iterate 2 refine TD.run1 (pure_move rfl) rfl ?_); refine TD.run1 (pure_sub rfl rfl (mkI64 (by omega) (by omega))) rfl ?_; refine TD.run1 (pure_indexAddr Ty.sl35 rfl rfl (by omega) hrb (List.cons_ne_nil _ _)) rfl ?_; refine TD.run1 (pure_load1 Ty.one3 rfl) rfl ?_; (iterate 2 refine TD.run1 (pure_move rfl) rfl ?_); refine TD.run1 (pure_indexAddr Ty.sl35 rfl rfl (by omega) hrc (List.cons_ne_nil _ _)) rfl ?_; refine TD.run1 (pure_load1 Ty.one3 rfl) rfl ?_; refine TD.run1 (pure_build3 Ty.pl77 Ty.zero77 rfl rfl rfl) rfl ?_; refine TD.run1 (pure_buildSlice (xs := [.tmp 52]) Ty.app62 (by decide) rfl rfl (.cons rfl (.agg _) rfl .nil)) rfl ?_; refine TD.nil ?_
        show TL _ _ _ _ _ _
        have hkk : ((encK (scL s) (bnds (cls s))).take k).length ≤ k := by rw [List.length_take]; omega
        refine TL.append Ty.app62 rfl rfl (by intro _; repeat (first | exact UpdR.here _ | apply UpdR.there)) (by simp only [List.length_append, List.length_cons, List.length_nil]; omega) (by simp only [List.length_append, List.length_cons, List.length_nil]; omega) rfl (fun v54 hv54 => ?_); refine TL.run1 (pure_assign rfl) rfl ?_; refine TL.nil ?_; refine block_normal ?_; refine then_normal ?_; refine TC.region ?_; refine TL.run1 (pure_move rfl) rfl ?_; refine TL.run1 (pure_add rfl rfl (mkI64 (by omega) (by omega))) rfl ?_; refine TL.run1 (pure_assign rfl) rfl ?_; refine TL.nil ?_
        have htk := encK_take (scL s) (bnds (cls s)) k (by rw [scL_len]; omega)
        have hcl : clK (scL s) (bnds (cls s)) k = [.v (.int .i64 (clsIn segT (iAt (pts s) (iAt (bnds (cls s)) k)))), .v (.int .i64 (iAt (bnds (cls s)) k)), .v (.int .i64 (iAt (bnds (cls s)) ((k + 1 : Nat) : Int)))] := by unfold clK; rw [scL_get s k (by omega)]; rfl
        refine loop_next (k + 1, v54) ⟨by (dsimp only; rw [show (((k + 1 + 1 : Nat)) : Int) = ((k + 1 : Nat) : Int) + 1 by omega]; repeat (first | exact Agree.nil | refine Agree.cons rfl ?_)), by dsimp only; rw [htk, hcl]; repeat (first | exact List.nil_sublist _ | exact List.Sublist.refl _ | apply List.Sublist.cons_cons | apply List.Sublist.cons)⟩ (show k + 1 ≤ _ by omega) (by dsimp only; omega)
      · try dsimp only at hc29
        refine TC.exit ?_; refine then_exit ?_; refine loop_exit ?_; refine block_here ?_; refine then_normal ?_; refine TC.seq ?_; refine TC.region ?_; refine TL.run1 (pure_move rfl) rfl ?_; (iterate 2 refine TL.run1 (pure_assign rfl) rfl ?_); refine TL.nil' ?_; refine TC.ret ?_
        have hkn : k = (cAll (cls s)).length := by omega
        unfold kluV errU; rw [hok, if_pos rfl, if_pos rfl]
        rw [take_all_of (encK (scL s) (bnds (cls s))) k (by rw [encK_len, scL_len]; omega)]
        exact retF2 (.inl rfl) rfl rfl (.tupL (.cons (.rowS (by repeat (first | exact List.Mem.head _ | apply List.Mem.tail)) (by decide) (encK_each _ _)) (.cons (.same _) .nil)))
end Go.Ob
