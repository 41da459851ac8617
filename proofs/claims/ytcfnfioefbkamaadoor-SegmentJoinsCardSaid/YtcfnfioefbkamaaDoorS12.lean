import Derived.Test.YtcfnfioefbkamaaDoorS11
import Derived.Test.YtcfnfioefbkamaaDoorN3
set_option linter.unusedVariables false
set_option linter.unusedSimpArgs false
namespace Go.Ob
open Go.Proofs
/-! ### tokens by unit, beginnings -/
def fT (c b : List Int) (m : Nat) : Int := iAt b ((posT c m : Nat) : Int)
def kT (c : List Int) (m : Nat) : Int := kindT c (posT c m)
theorem tkr (c b : List Int) (m : Nat) (h : m < nT c) : (encTk c b)[((m : Nat) : Int).toNat]? = some [.v (.int .i64 (kT c m)), .v (.int .i64 (fT c b m)), .v (.int .i64 (fT c b (m + 1)))] := encTk_get c b m h
def hitT (c b : List Int) (u : Int) (i : Nat) : Prop := fT c b i ≤ u ∧ u < fT c b (i + 1)
instance (c b : List Int) (u : Int) (i : Nat) : Decidable (hitT c b u i) := by unfold hitT; infer_instance
def aI (c b : List Int) (u : Int) : Nat → Nat
  | 0 => nT c
  | k + 1 => if hitT c b u (nT c - 1 - k) then nT c - 1 - k else aI c b u k
theorem aI_step {c b : List Int} {u : Int} {i : Nat} (h : i < nT c) : aI c b u (nT c - i) = if hitT c b u i then i else aI c b u (nT c - (i + 1)) := by
  rw [show nT c - i = (nT c - (i + 1)) + 1 by omega, aI, show nT c - 1 - (nT c - (i + 1)) = i by omega]
def tokZ (c b : List Int) (i : Nat) : Int × Int × Int := if i < nT c then (kT c i, fT c b i, fT c b (i + 1)) else (0, 0, 0)
def aS (s : ByteArray) (u : Int) : Nat := aI (scL s) (bnds (cls s)) u (nT (scL s))
def tqX (s : ByteArray) (u : Int) : Int × Int × Int := if okS s = true then tokZ (scL s) (bnds (cls s)) (aS s u) else (0, 0, 0)
def tqE (s : ByteArray) (u : Int) : Int := if okS s = true then (if aS s u < nT (scL s) then 0 else 2) else 12
def stTo (c b : List Int) : Nat → List Int
  | 0 => []
  | m + 1 => stTo c b m ++ (if kT c m ≠ 3 then [fT c b m] else [])
theorem stTo_len (c b : List Int) : ∀ m, (stTo c b m).length ≤ m
  | 0 => Nat.le_refl _
  | m + 1 => by
    have := stTo_len c b m
    rw [stTo, List.length_append]
    split
    · simp only [List.length_cons, List.length_nil]; omega
    · simp only [List.length_nil]; omega
def sF (c b : List Int) : Nat → List Int
  | 0 => []
  | k + 1 => (if kT c (nT c - 1 - k) ≠ 3 then [fT c b (nT c - 1 - k)] else []) ++ sF c b k
theorem st_sF (c b : List Int) : ∀ k, k ≤ nT c → stTo c b (nT c - k) ++ sF c b k = stTo c b (nT c)
  | 0, _ => by rw [sF, List.append_nil, Nat.sub_zero]
  | k + 1, h => by
    rw [← st_sF c b k (by omega), sF, ← List.append_assoc, show nT c - k = (nT c - (k + 1)) + 1 by omega, stTo, show nT c - 1 - k = nT c - (k + 1) by omega]
def stB (s : ByteArray) : List Int := stTo (scL s) (bnds (cls s)) (nT (scL s))
def stE (s : ByteArray) (u : Int) : Int := if okS s = true then (if 0 ≤ u ∧ u ≤ nR s then 0 else 2) else 12
def stV (s : ByteArray) (u : Int) : List Int := if stE s u = 0 then stB s else []
def stN (s : ByteArray) (u : Int) : Int := if stE s u = 0 then (nR s : Int) else 0
theorem stE_bad {s : ByteArray} (h : okS s = false) (u : Int) : stE s u = 12 ∧ stV s u = [] ∧ stN s u = 0 := by
  have e : stE s u = 12 := by unfold stE; rw [h]; rfl
  unfold stV stN; rw [e]; exact ⟨rfl, rfl, rfl⟩
theorem stE_out {s : ByteArray} (h : okS s = true) {u : Int} (hu : ¬ (0 ≤ u ∧ u ≤ nR s)) : stE s u = 2 ∧ stV s u = [] ∧ stN s u = 0 := by
  have e : stE s u = 2 := by unfold stE; rw [if_pos h, if_neg hu]
  unfold stV stN; rw [e]; exact ⟨rfl, rfl, rfl⟩
theorem stE_ok {s : ByteArray} (h : okS s = true) {u : Int} (hu : 0 ≤ u ∧ u ≤ nR s) : stE s u = 0 ∧ stV s u = stB s ∧ stN s u = nR s := by
  have e : stE s u = 0 := by unfold stE; rw [if_pos h, if_pos hu]
  unfold stV stN; rw [e]; exact ⟨rfl, rfl, rfl⟩
theorem stV_len (s : ByteArray) (u : Int) : (stV s u).length ≤ s.size + 1 := by
  have h := stTo_len (scL s) (bnds (cls s)) (nT (scL s))
  have h1 := nT_le (scL s)
  rw [scL_len] at h1
  have h2 := cAll_len_le (cls s)
  rw [cls_len] at h2
  have := nR_le s
  unfold stV stB
  split
  · omega
  · exact Nat.zero_le _
def nxL : List Int → Int → Int → Int
  | [], _, d => d
  | x :: l, u, d => if u < x then x else nxL l u d
theorem nxL_step {l : List Int} {u d : Int} {i : Nat} (h : i < l.length) : nxL (l.drop i) u d = if u < iAt l i then iAt l i else nxL (l.drop (i + 1)) u d := by
  have e : l.drop i = iAt l i :: l.drop (i + 1) := by
    rw [List.drop_eq_getElem_cons h]; unfold iAt; simp [h]
  rw [e, nxL]
def nf (c b : List Int) (u d : Int) : Nat → Int
  | 0 => d
  | k + 1 => if kT c (nT c - 1 - k) ≠ 3 ∧ u < fT c b (nT c - 1 - k) then fT c b (nT c - 1 - k) else nf c b u d k
theorem nf_sF (c b : List Int) (u d : Int) : ∀ k, nf c b u d k = nxL (sF c b k) u d
  | 0 => rfl
  | k + 1 => by
    rw [nf, sF]
    by_cases h : kT c (nT c - 1 - k) ≠ 3
    · rw [if_pos h]
      show _ = nxL (fT c b (nT c - 1 - k) :: sF c b k) u d
      rw [nxL]
      by_cases h2 : u < fT c b (nT c - 1 - k)
      · rw [if_pos ⟨h, h2⟩, if_pos h2]
      · rw [if_neg (fun x => h2 x.2), if_neg h2, nf_sF c b u d k]
    · rw [if_neg h, if_neg (fun x => h x.1)]; exact nf_sF c b u d k
def nxV (s : ByteArray) (u : Int) : Int := if stE s u = 0 then nxL (stB s) u (nR s) else 0
theorem nxV_ok {s : ByteArray} (h : okS s = true) {u : Int} (hu : 0 ≤ u ∧ u ≤ nR s) : nxV s u = nf (scL s) (bnds (cls s)) u (nR s) (nT (scL s)) := by
  unfold nxV
  rw [(stE_ok h hu).1, if_pos rfl, nf_sF]
  have := st_sF (scL s) (bnds (cls s)) (nT (scL s)) (Nat.le_refl _)
  rw [Nat.sub_self, stTo, List.nil_append] at this
  unfold stB
  rw [this]
theorem nf_skip {c b : List Int} {u d : Int} : ∀ {i}, i ≤ nT c → (∀ j, j < i → kT c j ≠ 3 → fT c b j ≤ u) → nf c b u d (nT c) = nf c b u d (nT c - i)
  | 0, _, _ => by rw [Nat.sub_zero]
  | i + 1, h, hj => by
    rw [nf_skip (i := i) (by omega) (fun j a => hj j (by omega)), show nT c - i = (nT c - (i + 1)) + 1 by omega, nf, show nT c - 1 - (nT c - (i + 1)) = i by omega]
    rw [if_neg (fun x => by have := hj i (by omega) x.1; omega)]
theorem nf_hit {c b : List Int} {u d : Int} {i : Nat} (h : i < nT c) (hk : kT c i ≠ 3) (hu : u < fT c b i) : nf c b u d (nT c - i) = fT c b i := by
  rw [show nT c - i = (nT c - (i + 1)) + 1 by omega, nf, show nT c - 1 - (nT c - (i + 1)) = i by omega, if_pos ⟨hk, hu⟩]
def pvL (l : List Int) (u : Int) : Nat → Int
  | 0 => 0
  | k + 1 => if iAt l k < u then iAt l k else pvL l u k
theorem pvL_app (l m : List Int) (u : Int) : ∀ k, k ≤ l.length → pvL (l ++ m) u k = pvL l u k
  | 0, _ => rfl
  | k + 1, h => by
    have e : iAt (l ++ m) k = iAt l k := by
      unfold iAt
      rw [List.getD_eq_getElem?_getD, List.getD_eq_getElem?_getD, List.getElem?_append_left (by rw [Int.toNat_natCast]; omega)]
    rw [pvL, pvL, e, pvL_app l m u k (by omega)]
def pf (c b : List Int) (u : Int) : Nat → Int
  | 0 => 0
  | m + 1 => if kT c m ≠ 3 ∧ fT c b m < u then fT c b m else pf c b u m
theorem pvL_st (c b : List Int) (u : Int) : ∀ m, pvL (stTo c b m) u (stTo c b m).length = pf c b u m
  | 0 => rfl
  | m + 1 => by
    rw [pf, stTo]
    by_cases h : kT c m ≠ 3
    · rw [if_pos h, List.length_append, List.length_singleton, pvL, pvL_app _ _ _ _ (Nat.le_refl _), pvL_st c b u m]
      have e : iAt (stTo c b m ++ [fT c b m]) ((stTo c b m).length : Nat) = fT c b m := by unfold iAt; simp
      rw [e]
      by_cases h2 : fT c b m < u
      · rw [if_pos h2, if_pos ⟨h, h2⟩]
      · rw [if_neg h2, if_neg (fun x => h2 x.2)]
    · rw [if_neg h, if_neg (fun x => h x.1), List.append_nil, pvL_st c b u m]
def pvV (s : ByteArray) (u : Int) : Int := if stE s u = 0 then pvL (stB s) u (stB s).length else 0
theorem pvV_ok {s : ByteArray} (h : okS s = true) {u : Int} (hu : 0 ≤ u ∧ u ≤ nR s) : pvV s u = pf (scL s) (bnds (cls s)) u (nT (scL s)) := by
  unfold pvV stB
  rw [(stE_ok h hu).1, if_pos rfl, pvL_st]
theorem pf_skip {c b : List Int} {u : Int} {i : Nat} : ∀ {n}, i ≤ n → (∀ j, i ≤ j → j < n → kT c j ≠ 3 → u ≤ fT c b j) → pf c b u n = pf c b u i
  | 0, h, _ => by rw [show i = 0 by omega]
  | n + 1, h, hj => by
    rcases Nat.lt_or_eq_of_le h with h1 | h1
    · rw [pf, if_neg (fun x => by have := hj n (by omega) (by omega) x.1; omega)]
      exact pf_skip (by omega) (fun j a d => hj j a (by omega))
    · rw [h1]
def lp (c b : List Int) (u : Int) : Nat → Int
  | 0 => 0
  | k + 1 => if kT c (nT c - 1 - k) ≠ 3 ∧ fT c b (nT c - 1 - k) < u then max (lp c b u k) (fT c b (nT c - 1 - k)) else lp c b u k
theorem lp_ge (c b : List Int) (u : Int) : ∀ k, 0 ≤ lp c b u k
  | 0 => Int.le_refl _
  | k + 1 => by have := lp_ge c b u k; rw [lp]; split <;> omega
/-- what the tokens' beginnings are -/
structure TokOk (c b : List Int) (n : Int) : Prop where
  z : fT c b 0 = 0
  e : fT c b (nT c) = n
  lt : ∀ m, m < nT c → fT c b m < fT c b (m + 1)
theorem TokOk.mono {c b : List Int} {n : Int} (h : TokOk c b n) {i j : Nat} (hij : i ≤ j) (hj : j ≤ nT c) : fT c b i ≤ fT c b j := by
  induction hij with
  | refl => exact Int.le_refl _
  | @step m hm ih => have := h.lt m (by omega); have := ih (by omega); show _ ≤ fT c b (m + 1); omega
theorem TokOk.ge {c b : List Int} {n : Int} (h : TokOk c b n) {j : Nat} (hj : j ≤ nT c) : 0 ≤ fT c b j ∧ fT c b j ≤ n := by
  have h1 := h.mono (Nat.zero_le j) hj
  have h2 := h.mono hj (Nat.le_refl _)
  rw [h.z] at h1; rw [h.e] at h2
  exact ⟨h1, h2⟩
theorem TokOk.pf_le {c b : List Int} {n : Int} (h : TokOk c b n) (u : Int) : ∀ i, i ≤ nT c → 0 ≤ pf c b u i ∧ pf c b u i ≤ fT c b i
  | 0, _ => by rw [pf, h.z]; omega
  | i + 1, hi => by
    have h1 := h.pf_le u i (by omega)
    have h2 := h.lt i hi
    have h3 := (h.ge (j := i) (by omega)).1
    rw [pf]; split <;> omega
theorem TokOk.lp_pf {c b : List Int} {n : Int} (h : TokOk c b n) (u : Int) : lp c b u (nT c) = pf c b u (nT c) := by
  have key : ∀ k, k ≤ nT c → pf c b u (nT c) = max (lp c b u k) (pf c b u (nT c - k)) := by
    intro k
    induction k with
    | zero => intro _; have := (h.pf_le u (nT c) (Nat.le_refl _)).1; rw [lp, Nat.sub_zero]; omega
    | succ k ih =>
      intro hk
      have h1 := ih (by omega)
      have h2 := (h.pf_le u (nT c - (k + 1)) (by omega)).2
      rw [show nT c - k = (nT c - (k + 1)) + 1 by omega, pf] at h1
      rw [lp, show nT c - 1 - k = nT c - (k + 1) by omega, h1]
      split <;> omega
  have h1 := key (nT c) (Nat.le_refl _)
  rw [Nat.sub_self, pf] at h1
  have := lp_ge c b u (nT c)
  omega
theorem TokOk.hit {c b : List Int} {n u : Int} (h : TokOk c b n) (h1 : u < n) : ∀ d i, i + d = nT c → fT c b i ≤ u → aI c b u d < nT c
  | 0, i, hi, hu => by have e := h.e; rw [Nat.add_zero] at hi; rw [← hi] at e; omega
  | d + 1, i, hi, hu => by
    have e := aI_step (c := c) (b := b) (u := u) (i := i) (by omega)
    rw [show nT c - i = d + 1 by omega, show nT c - (i + 1) = d by omega] at e
    rw [e]
    split
    · omega
    · rename_i hh
      refine h.hit h1 d (i + 1) (by omega) ?_
      rcases Int.lt_or_le u (fT c b (i + 1)) with h2 | h2
      · exact absurd ⟨hu, h2⟩ hh
      · exact h2
theorem TokOk.miss {c b : List Int} {n u : Int} (h : TokOk c b n) (h1 : u < 0 ∨ n ≤ u) : ∀ k, aI c b u k = nT c
  | 0 => rfl
  | k + 1 => by
    rw [aI]
    split
    · rename_i hh
      rcases Nat.eq_zero_or_pos (nT c) with h0 | h0
      · omega
      · exfalso
        obtain ⟨a, d⟩ := hh
        have h2 := h.ge (j := nT c - 1 - k) (by omega)
        have h3 := h.ge (j := nT c - 1 - k + 1) (by omega)
        omega
    · exact h.miss h1 k
theorem inc_iAtS {b : List Int} (h : Inc b) {i j : Nat} (hij : i < j) (hj : j < b.length) : iAt b i < iAt b j := h.lt hij hj
theorem bnds_endS (s : ByteArray) : iAt (bnds (cls s)) ((cAll (cls s)).length : Nat) = nR s := by
  have h := bnds_last (cls s)
  have e : (bnds (cls s)).length = (cAll (cls s)).length + 1 := ends_len _
  rw [e, cls_len, show ((((cAll (cls s)).length + 1 : Nat)) : Int) - 1 = (((cAll (cls s)).length : Nat) : Int) by omega] at h
  exact h
theorem tok_ok {s : ByteArray} (hok : okS s = true) : TokOk (scL s) (bnds (cls s)) (nR s) := by
  have hsl := scL_len s
  have hbl : (bnds (cls s)).length = (cAll (cls s)).length + 1 := ends_len _
  have hbe := bnds_endS s
  refine ⟨bnds_zero (cls s), ?_, fun m hm => ?_⟩
  · unfold fT; rw [nT_end, hsl]; exact hbe
  · have h1 := nT_lt.1 hm
    have h2 := posT_le (scL s) (m + 1)
    exact inc_iAtS (inc_bnds (cls s)) (posT_lt h1) (by omega)
theorem tq_in {s : ByteArray} (hok : okS s = true) {u : Int} (h0 : 0 ≤ u) (h1 : u < nR s) : tqE s u = 0 ∧ tqX s u = tokZ (scL s) (bnds (cls s)) (aS s u) := by
  have h := tok_ok hok
  have ha : aS s u < nT (scL s) := h.hit h1 (nT (scL s)) 0 (by omega) (by rw [h.z]; exact h0)
  unfold tqE tqX
  rw [if_pos hok, if_pos ha, if_pos hok]; exact ⟨rfl, rfl⟩
theorem tq_out {s : ByteArray} (hok : okS s = true) {u : Int} (h1 : u < 0 ∨ (nR s : Int) ≤ u) : tqE s u = 2 ∧ tqX s u = (0, 0, 0) ∧ tokZ (scL s) (bnds (cls s)) (aS s u) = (0, 0, 0) := by
  have ha : aS s u = nT (scL s) := (tok_ok hok).miss h1 _
  have hz : tokZ (scL s) (bnds (cls s)) (aS s u) = (0, 0, 0) := by unfold tokZ; rw [ha, if_neg (Nat.lt_irrefl _)]
  unfold tqE tqX
  rw [if_pos hok, if_neg (by omega), if_pos hok, hz]; exact ⟨rfl, rfl, rfl⟩
theorem tq_bad {s : ByteArray} (hok : okS s = false) (u : Int) : tqE s u = 12 ∧ tqX s u = (0, 0, 0) := by
  unfold tqE tqX; rw [hok]; exact ⟨rfl, rfl⟩
/-! ### visits -/
def nw (c b : List Int) : Nat → Int
  | 0 => 0
  | m + 1 => if kT c m = 3 ∨ fT c b m = 0 then nw c b m else fT c b m
theorem TokOk.nw_le {c b : List Int} {n : Int} (h : TokOk c b n) : ∀ i, i ≤ nT c → 0 ≤ nw c b i ∧ nw c b i ≤ fT c b i ∧ (i < nT c → fT c b i ≠ 0 → nw c b i < fT c b i) ∧ ∀ j, j < i → kT c j ≠ 3 → fT c b j ≤ nw c b i
  | 0, _ => by
    rw [nw, h.z]
    exact ⟨Int.le_refl _, Int.le_refl _, fun _ x => absurd rfl x, fun j a => by omega⟩
  | i + 1, hi => by
    obtain ⟨a1, a2, a3, a4⟩ := h.nw_le i (by omega)
    have h2 := h.lt i hi
    have h3 := (h.ge (j := i) (by omega)).1
    rw [nw]
    split
    · rename_i hh
      refine ⟨a1, by omega, fun _ _ => by omega, fun j hj hk => ?_⟩
      rcases Nat.lt_or_eq_of_le (Nat.le_of_lt_succ hj) with e | e
      · exact a4 j e hk
      · subst e; rcases hh with hh | hh
        · exact absurd hh hk
        · omega
    · refine ⟨h3, by omega, fun _ _ => h2, fun j hj hk => h.mono (by omega) (by omega)⟩
def bw (c b : List Int) (n : Int) : Nat → Int
  | 0 => n
  | m + 1 => if kT c (nT c - 1 - m) = 3 then bw c b n m else fT c b (nT c - 1 - m)
theorem TokOk.bw_ge {c b : List Int} {n : Int} (h : TokOk c b n) : ∀ m, m ≤ nT c → 0 ≤ bw c b n m ∧ bw c b n m ≤ n ∧ fT c b (nT c - m) ≤ bw c b n m ∧ ∀ j, nT c - m ≤ j → j < nT c → kT c j ≠ 3 → bw c b n m ≤ fT c b j
  | 0, _ => by
    have := h.ge (Nat.le_refl (nT c))
    rw [bw, Nat.sub_zero, h.e]
    rw [h.e] at this
    exact ⟨this.1, Int.le_refl _, Int.le_refl _, fun j x y => by omega⟩
  | m + 1, hm => by
    obtain ⟨a1, a2, a3, a4⟩ := h.bw_ge m (by omega)
    have e1 : nT c - 1 - m = nT c - (m + 1) := by omega
    have h2 := h.lt (nT c - (m + 1)) (by omega)
    rw [show nT c - (m + 1) + 1 = nT c - m by omega] at h2
    have h3 := h.ge (j := nT c - (m + 1)) (by omega)
    rw [bw, e1]
    split
    · rename_i hh
      refine ⟨a1, a2, by omega, fun j x y hk => ?_⟩
      rcases Nat.eq_or_lt_of_le x with e | e
      · subst e; exact absurd hh hk
      · exact a4 j (by omega) y hk
    · exact ⟨h3.1, h3.2, Int.le_refl _, fun j x y _ => h.mono x (by omega)⟩
theorem TokOk.bw_lt {c b : List Int} {n : Int} (h : TokOk c b n) {m : Nat} (hm : m < nT c) : fT c b (nT c - 1 - m) < bw c b n m := by
  have h1 := (h.bw_ge m (by omega)).2.2.1
  have h2 := h.lt (nT c - 1 - m) (by omega)
  rw [show nT c - 1 - m + 1 = nT c - m by omega] at h2
  omega
theorem next_at {s : ByteArray} (hok : okS s = true) {i : Nat} (hi : i < nT (scL s)) (hk : kT (scL s) i ≠ 3) (hz : fT (scL s) (bnds (cls s)) i ≠ 0) : nxV s (nw (scL s) (bnds (cls s)) i) = fT (scL s) (bnds (cls s)) i ∧ stE s (nw (scL s) (bnds (cls s)) i) = 0 := by
  have h := tok_ok hok
  obtain ⟨a1, a2, a3, a4⟩ := h.nw_le i (by omega)
  have h3 := h.ge (j := i) (by omega)
  have hr : 0 ≤ nw (scL s) (bnds (cls s)) i ∧ nw (scL s) (bnds (cls s)) i ≤ nR s := ⟨a1, by omega⟩
  rw [nxV_ok hok hr, nf_skip (i := i) (by omega) a4, nf_hit hi hk (a3 hi hz)]
  exact ⟨rfl, (stE_ok hok hr).1⟩
theorem next_end {s : ByteArray} (hok : okS s = true) : nxV s (nw (scL s) (bnds (cls s)) (nT (scL s))) = nR s ∧ stE s (nw (scL s) (bnds (cls s)) (nT (scL s))) = 0 := by
  have h := tok_ok hok
  obtain ⟨a1, a2, _, a4⟩ := h.nw_le (nT (scL s)) (Nat.le_refl _)
  rw [h.e] at a2
  rw [nxV_ok hok ⟨a1, a2⟩, nf_skip (i := nT (scL s)) (Nat.le_refl _) a4, Nat.sub_self]
  exact ⟨rfl, (stE_ok hok ⟨a1, a2⟩).1⟩
theorem prev_at {s : ByteArray} (hok : okS s = true) {m : Nat} (hm : m < nT (scL s)) (hk : kT (scL s) (nT (scL s) - 1 - m) ≠ 3) : pvV s (bw (scL s) (bnds (cls s)) (nR s) m) = fT (scL s) (bnds (cls s)) (nT (scL s) - 1 - m) ∧ stE s (bw (scL s) (bnds (cls s)) (nR s) m) = 0 := by
  have h := tok_ok hok
  obtain ⟨a1, a2, a3, a4⟩ := h.bw_ge m (by omega)
  have hl := h.bw_lt hm
  rw [pvV_ok hok ⟨a1, a2⟩, pf_skip (i := nT (scL s) - m) (by omega) a4, show nT (scL s) - m = (nT (scL s) - 1 - m) + 1 by omega, pf, if_pos ⟨hk, hl⟩]
  exact ⟨rfl, (stE_ok hok ⟨a1, a2⟩).1⟩
/-! ### counting code points -/
theorem cnt_step {s : ByteArray} (hok : okS s = true) {a k : Nat} (ha : a < s.size) (h1 : a ≤ rpos s k) (h2 : ∀ j, j < k → rpos s j < a) (hk : k ≤ nR s) : (a = rpos s k ∧ k < nR s ∧ ¬ (128 ≤ byt s a ∧ byt s a ≤ 191)) ∨ (a < rpos s k ∧ 128 ≤ byt s a ∧ byt s a ≤ 191) := by
  rcases Nat.lt_or_eq_of_le h1 with h | h
  · right
    rcases Nat.eq_zero_or_pos k with h0 | h0
    · subst h0; rw [rpos] at h; omega
    · obtain ⟨m, rfl⟩ : ∃ m, k = m + 1 := ⟨k - 1, by omega⟩
      exact ⟨h, byt_in hok (by omega) (h2 m (by omega)) h⟩
  · left
    have hk1 : k < nR s := nR_lt.2 (by omega)
    exact ⟨h, hk1, h ▸ byt_lead hok hk1⟩
theorem cnt_end {s : ByteArray} {k : Nat} (h1 : s.size ≤ rpos s k) (h2 : ∀ j, j < k → rpos s j < s.size) : k = nR s := by
  rcases Nat.lt_trichotomy k (nR s) with h | h | h
  · have := nR_lt.1 h; omega
  · exact h
  · have := h2 (nR s) h; rw [nR_end] at this; omega
def cntV (s : ByteArray) : Int := if okS s = true then (nR s : Int) else 0
theorem st_zero {s : ByteArray} {u : Int} (h : stE s u = 0) : stV s u = stB s ∧ stN s u = nR s ∧ nxV s u = nxL (stB s) u (nR s) ∧ pvV s u = pvL (stB s) u (stB s).length := by
  unfold stV stN nxV pvV
  rw [h]; exact ⟨rfl, rfl, rfl, rfl⟩
theorem st_non {s : ByteArray} {u : Int} (h : stE s u ≠ 0) : nxV s u = 0 ∧ pvV s u = 0 := ⟨if_neg h, if_neg h⟩
def encBk (l : List Int) : List (List D) := (List.range l.length).map fun (k : Nat) => [.v (.int .i64 ((l.length : Int) - 1 - k)), .v (.int .i64 (iAt l ((l.length : Int) - 1 - k)))]
theorem encBk_len (l : List Int) : (encBk l).length = l.length := by simp [encBk]
theorem encBk_get (l : List Int) (k : Nat) (h : k < l.length) : (encBk l)[k]? = some [.v (.int .i64 ((l.length : Int) - 1 - k)), .v (.int .i64 (iAt l ((l.length : Int) - 1 - k)))] := by simp [encBk, h]
theorem pvL_back {l : List Int} {u : Int} {k : Nat} (h : k < l.length) : pvL l u (l.length - k) = if iAt l ((l.length : Int) - 1 - k) < u then iAt l ((l.length : Int) - 1 - k) else pvL l u (l.length - (k + 1)) := by
  rw [show l.length - k = (l.length - (k + 1)) + 1 by omega, pvL, show ((l.length - (k + 1) : Nat) : Int) = (l.length : Int) - 1 - k by omega]
set_option maxRecDepth 100000 in
theorem RPoints_spec (s : ByteArray) (hok : okS s = true) (hs : s.size ≤ 1000000000) : Fun Tryd.prog 40 [.v (.string s)] (.sl 1 (encI (pts s))) := by
  refine Fun.enterF (n := 29) (rs := [.tmp 2]) Tryd.func40 rfl Tryd.ntmps40 Tryd.results40 rfl (fun w F => ?_); refine TC.seq ?_; refine TC.region ?_; refine TL.run1 (pure_assign rfl) rfl ?_; refine TL.nil' ?_; refine TC.seq ?_; refine TC.region ?_; refine TL.run1 (pure_assign rfl) rfl ?_; refine TL.nil' ?_; (iterate 2 refine TC.seq ?_); refine TC.nilrow 3 1 ?_; refine TC.region ?_; refine TL.run1 (pure_assign rfl) rfl ?_; refine TL.nil' ?_; refine TC.block ?_; refine TC.loopX (X := Nat × Value) (fun (k, v) => [(0, .v (.string s)), (3, .v v), (4, .v (.int .i64 (rpos s k : Nat)))]) (fun (k, v) => [.row v 3 1 (encI (ptsTo s k))]) (fun (k, v) => (k ≤ nR s)) (fun (k, v) => s.size - rpos s k) (0, .slice none 0 0) ⟨by skip; repeat (first | exact Agree.nil | refine Agree.cons rfl ?_), by skip; repeat (first | exact List.nil_sublist _ | exact List.Sublist.refl _ | apply List.Sublist.cons_cons | apply List.Sublist.cons)⟩ ?_ ?_
  · skip
    exact Nat.zero_le _
  rintro ⟨k, v⟩
  intro k1
  show TC _ _ _ (Env.of [(0, .v (.string s)), (3, .v v), (4, .v (.int .i64 (rpos s k : Nat)))]) [.row v 3 1 (encI (ptsTo s k))]
  (iterate 2 refine TC.seq ?_); refine TC.region ?_; (iterate 2 refine TL.run1 (pure_move rfl) rfl ?_); refine TL.run1 (pure_len_str Tryd.underlying9 rfl) rfl ?_; refine TL.run1 (pure_lss rfl rfl) rfl ?_; refine TL.nil' ?_; refine TC.condD rfl (fun hc10 => ?_) (fun hc10 => ?_)
  · try dsimp only at hc10
    refine TC.skip' ?_; refine TC.block ?_; refine TC.seq ?_
    have hlt : rpos s k < s.size := by omega
    have hkk := nR_lt.2 hlt
    have hrl := rpos_lt s k
    obtain ⟨q1, q2, q3, q4⟩ := dec_rest hok hlt
    have hkl := encI_len (ptsTo s k)
    have hpl := ptsTo_len s k
    have hrm := rpos_mono s (show k + 1 ≤ nR s by omega)
    rw [nR_end] at hrm
    have hnl := nR_le s
    refine TC.region ?_; (iterate 2 refine TL.run1 (pure_move rfl) rfl ?_); refine TL.run1 (pure_slice_str (l := rpos s k) (h := s.size) Tryd.underlying9 rfl rfl rfl (by omega) (by omega)) rfl ?_; refine TL.run1 (pure_call (Decode_spec (s.extract (rpos s k) s.size) q1 q2 (by rw [ByteArray.size_extract]; omega)) (.cons rfl .nil) Tryd.call70) rfl ?_; refine TL.run1 (pure_move rfl) rfl ?_; (iterate 2 refine TL.run1 (pure_extract rfl rfl) rfl ?_); (iterate 2 refine TL.run1 (pure_assign rfl) rfl ?_); refine TL.nil' ?_; (iterate 2 refine TC.seq ?_); refine TC.region ?_; refine TL.run1 (pure_move rfl) rfl ?_; refine TL.run1 (pure_eql rfl rfl) rfl ?_; refine TL.nil' ?_; refine TC.condD rfl (fun hc19 => ?_) (fun hc19 => ?_)
    · try dsimp only at hc19
      exfalso; omega
    · try dsimp only at hc19
      refine TC.skip' ?_; refine TC.seq ?_; refine TC.region ?_; (iterate 2 refine TL.run1 (pure_move rfl) rfl ?_); refine TL.run1 (pure_buildSlice (xs := [.tmp 22]) Ty.app35 (by decide) rfl rfl (.cons rfl (.one rfl) rfl .nil)) rfl ?_; refine TL.append Ty.app35 rfl rfl (by intro _; repeat (first | exact UpdR.here _ | apply UpdR.there)) (by simp only [List.length_append, List.length_cons, List.length_nil]; omega) (by simp only [List.length_append, List.length_cons, List.length_nil]; omega) rfl (fun v24 hv24 => ?_); refine TL.run1 (pure_assign rfl) rfl ?_; refine TL.nil' ?_; refine TC.region ?_; (iterate 2 refine TL.run1 (pure_move rfl) rfl ?_); refine TL.run1 (pure_add rfl rfl (mkI64 (by omega) (by omega))) rfl ?_; refine TL.run1 (pure_assign rfl) rfl ?_; refine TL.nil ?_; refine block_normal ?_; refine loop_next (k + 1, v24) ⟨by (dsimp only; rw [show ((rpos s (k + 1) : Nat) : Int) = (rpos s k : Int) + (((Utf8.decode (s.extract (rpos s k) s.size) 0).2 : Nat) : Int) by omega]; repeat (first | exact Agree.nil | refine Agree.cons rfl ?_)), by dsimp only; rw [ptsTo_succ, encI_snoc, ← q3]; repeat (first | exact List.nil_sublist _ | exact List.Sublist.refl _ | apply List.Sublist.cons_cons | apply List.Sublist.cons)⟩ (show k + 1 ≤ _ by omega) (by dsimp only; omega)
  · try dsimp only at hc10
    refine TC.exit ?_; refine then_exit ?_; refine loop_exit ?_; refine block_here ?_; refine then_normal ?_; refine TC.seq ?_; refine TC.region ?_; refine TL.run1 (pure_move rfl) rfl ?_; refine TL.run1 (pure_assign rfl) rfl ?_; refine TL.nil' ?_; refine TC.ret ?_
    have hrm := rpos_mono s k1
    rw [nR_end] at hrm
    have hk : k = nR s := nR_eq (by omega)
    subst hk
    exact retF_row rfl (by repeat (first | exact List.Mem.head _ | apply List.Mem.tail)) (by decide) (encI_each _) rfl
set_option maxRecDepth 100000 in
theorem size_spec (s : ByteArray) (hok : okS s = true) (hs : s.size ≤ 1000000000) : Fun Tryd.prog 20 [.v (.string s)] (.v (.int .i64 (nR s : Nat))) := by
  refine Fun.enter (n := 6) (rs := [.tmp 2]) Tryd.func20 rfl Tryd.ntmps20 Tryd.results20 rfl (fun w F => ?_); refine TC.seq ?_; refine TC.region ?_; refine TL.run1 (pure_assign rfl) rfl ?_; refine TL.nil' ?_; refine TC.seq ?_; refine TC.region ?_; refine TL.run1 (pure_move rfl) rfl ?_; refine TL.run1 (pure_call (RPoints_spec s hok hs) (.cons rfl .nil) Tryd.call40) rfl ?_; refine TL.run1 (pure_len Ty.sl35 rfl) rfl ?_; refine TL.run1 (pure_assign rfl) rfl ?_; refine TL.nil' ?_; refine TC.ret ?_
  exact ret_int rfl (by rw [encI_len, pts_len])
set_option maxRecDepth 100000 in
theorem CCount_spec (s : ByteArray) (hs : s.size ≤ 1000000000) : Fun Tryd.prog 76 [.v (.string s)] (.tup [.v (.int .i64 (cntV s)), .v (.int .i64 (errU s))]) := by
  refine Fun.enter (n := 22) (rs := [.tmp 2, .tmp 3]) Tryd.func76 rfl Tryd.ntmps76 Tryd.results76 rfl (fun w F => ?_)
  have hnl := nR_le s
  refine TC.seq ?_; refine TC.region ?_; (iterate 2 refine TL.run1 (pure_assign rfl) rfl ?_); refine TL.nil' ?_; (iterate 2 refine TC.seq ?_); refine TC.region ?_; refine TL.run1 (pure_move rfl) rfl ?_; refine TL.run1 (pure_call (Valid_spec s hs) (.cons rfl .nil) Tryd.call88) rfl ?_; refine TL.run1 (pure_not rfl) rfl ?_; refine TL.nil' ?_; refine TC.condN rfl (fun hc7 => ?_) (fun hc7 => ?_)
  · try dsimp only at hc7
    have hok : okS s = false := decide_eq_false hc7
    have he : cntV s = 0 ∧ errU s = 12 := by (unfold cntV errU; rw [hok]; exact ⟨rfl, rfl⟩)
    rw [he.1, he.2]
    refine TC.seq ?_; refine TC.region ?_; (iterate 2 refine TL.run1 (pure_assign rfl) rfl ?_); refine TL.nil' ?_; refine TC.ret ?_; refine then_ret ?_
    exact ret2 (.inl rfl) rfl rfl rfl
  · try dsimp only at hc7
    have hok : okS s = true := decide_eq_true hc7
    have he : cntV s = nR s ∧ errU s = 0 := by (unfold cntV errU; rw [hok]; exact ⟨rfl, rfl⟩)
    rw [he.1, he.2]
    refine TC.skip' ?_; (iterate 2 refine TC.seq ?_); refine TC.region ?_; refine TL.run1 (pure_move rfl) rfl ?_; refine TL.run1 (pure_len_str Tryd.underlying9 rfl) rfl ?_; refine TL.run1 (pure_move rfl) rfl ?_; refine TL.nil' ?_; refine TC.block ?_; refine TC.loopX (X := Nat × Nat) (fun (k, a) => [(0, .v (.string s)), (2, .v (.int .i64 k)), (9, .v (.int .i64 (s.size : Nat))), (10, .v (.int .i64 a))]) (fun (k, a) => []) (fun (k, a) => (a ≤ rpos s k) ∧ (∀ j, j < k → rpos s j < a) ∧ (k ≤ nR s) ∧ (a ≤ s.size)) (fun (k, a) => s.size - a) (0, 0) ⟨by skip; repeat (first | exact Agree.nil | refine Agree.cons rfl ?_), by skip; repeat (first | exact List.nil_sublist _ | exact List.Sublist.refl _ | apply List.Sublist.cons_cons | apply List.Sublist.cons)⟩ ?_ ?_
    · skip
      exact ⟨Nat.zero_le _, fun j h => by omega, Nat.zero_le _, Nat.zero_le _⟩
    rintro ⟨k, a⟩
    rintro ⟨h1, h2, h3, h4⟩
    show TC _ _ _ (Env.of [(0, .v (.string s)), (2, .v (.int .i64 k)), (9, .v (.int .i64 (s.size : Nat))), (10, .v (.int .i64 a))]) []
    refine TC.seq ?_; refine TC.region ?_; refine TL.run1 (pure_lss rfl rfl) rfl ?_; refine TL.nil' ?_; refine TC.seq ?_; refine TC.condD rfl (fun hc11 => ?_) (fun hc11 => ?_)
    · try dsimp only at hc11
      refine TC.skip' ?_; refine TC.seq ?_; refine TC.block ?_; refine TC.seq ?_; refine TC.region ?_; refine TL.run1 (pure_move rfl) rfl ?_; refine TL.run1 (pure_assign rfl) rfl ?_; refine TL.nil' ?_; refine TC.seq ?_
      have hal : a < s.size := by omega
      have hbl := byt_lt s a
      have hst := cnt_step hok hal h1 h2 h3
      refine TC.region ?_; (iterate 2 refine TL.run1 (pure_move rfl) rfl ?_); refine TL.run1 (pure_index_byt (j := a) Tryd.underlying9 rfl rfl rfl hal) rfl ?_; refine TL.run1 (pure_and_top8 rfl rfl (by omega) (by omega)) rfl ?_; refine TL.run1 (pure_neq rfl rfl) rfl ?_; refine TL.nil' ?_; refine TC.condD rfl (fun hc17 => ?_) (fun hc17 => ?_)
      · try dsimp only at hc17
        have hq : a = rpos s k ∧ k < nR s := by omega
        refine TC.region ?_; refine TL.run1 (pure_move rfl) rfl ?_; refine TL.run1 (pure_add rfl rfl (mkI64 (by omega) (by omega))) rfl ?_; refine TL.run1 (pure_assign rfl) rfl ?_; refine TL.nil ?_; refine block_normal ?_; refine then_normal ?_; refine TC.region ?_; refine TL.run1 (pure_add rfl rfl (mkI64 (by omega) (by omega))) rfl ?_; refine TL.run1 (pure_move rfl) rfl ?_; refine TL.nil ?_; refine loop_next (k + 1, a + 1) ⟨by ((try dsimp only); rw [show (((k + 1 : Nat)) : Int) = (k : Int) + 1 by omega, show (((a + 1 : Nat)) : Int) = (a : Int) + 1 by omega]; repeat (first | exact Agree.nil | refine Agree.cons rfl ?_)), by repeat (first | exact List.nil_sublist _ | exact List.Sublist.refl _ | apply List.Sublist.cons_cons | apply List.Sublist.cons)⟩ ⟨by have := rpos_lt s k; (try dsimp only); omega, fun j h => by (rcases Nat.lt_or_eq_of_le (Nat.le_of_lt_succ h) with h | h; exact Nat.lt_succ_of_lt (h2 j h); (subst h; (try dsimp only); omega)), by (try dsimp only); omega, by (try dsimp only); omega⟩ (by (try dsimp only); omega)
      · try dsimp only at hc17
        have hq : a < rpos s k := by omega
        refine TC.skip ?_; refine block_normal ?_; refine then_normal ?_; refine TC.region ?_; refine TL.run1 (pure_add rfl rfl (mkI64 (by omega) (by omega))) rfl ?_; refine TL.run1 (pure_move rfl) rfl ?_; refine TL.nil ?_; refine loop_next (k, a + 1) ⟨by ((try dsimp only); rw [show (((a + 1 : Nat)) : Int) = (a : Int) + 1 by omega]; repeat (first | exact Agree.nil | refine Agree.cons rfl ?_)), by repeat (first | exact List.nil_sublist _ | exact List.Sublist.refl _ | apply List.Sublist.cons_cons | apply List.Sublist.cons)⟩ ⟨by (try dsimp only); omega, fun j h => Nat.lt_succ_of_lt (h2 j h), h3, by (try dsimp only); omega⟩ (by (try dsimp only); omega)
    · try dsimp only at hc11
      refine TC.exit ?_; refine then_exit ?_; refine loop_exit ?_; refine block_here ?_; refine then_normal ?_; refine TC.seq ?_; refine TC.region ?_; refine TL.run1 (pure_move rfl) rfl ?_; (iterate 2 refine TL.run1 (pure_assign rfl) rfl ?_); refine TL.nil' ?_; refine TC.ret ?_
      have hk := cnt_end (s := s) (k := k) (by omega) (fun j h => by have := h2 j h; omega)
      exact ret2 (.inl rfl) rfl rfl (by rw [hk])
set_option maxRecDepth 100000 in
theorem back_seq (l : List Int) (hl : l.length ≤ 1000000000) : SeqD Tryd.prog 77 [.at_ [.sl 1 (encI l)]] (encBk l) := by
  refine SeqD.enter Tryd.func77 rfl Tryd.ntmps77 Tryd.results77 rfl (fun q J Jx w F H0 hJ0 hy => ?_)
  have hk := encI_len l
  refine TC.seq ?_; refine TC.region ?_; refine TL.run1 (pure_load1 Ty.one35 rfl) rfl ?_; refine TL.run1 (pure_len Ty.sl35 rfl) rfl ?_; refine TL.run1 (pure_sub rfl rfl (mkI64 (by omega) (by omega))) rfl ?_; refine TL.run1 (pure_assign rfl) rfl ?_; refine TL.nil' ?_; refine TC.block ?_; refine TC.loopX (X := Nat × Hp) (fun (n, Hc) => [(0, .v (.func (.yield q) #[] #[])), (1, .at_ [.sl 1 (encI l)]), (3, .v (.int .i64 ((l.length : Int) - 1 - n)))]) (fun (n, Hc) => Hc) (fun (n, Hc) => (n ≤ l.length) ∧ (J n Hc)) (fun (n, Hc) => l.length - n) (0, H0) ⟨by dsimp only; (try rw [encI_len]); rw [show ((l.length : Int) - 1 - ((0 : Nat) : Int)) = (l.length : Int) - 1 by omega]; repeat (first | exact Agree.nil | refine Agree.cons rfl ?_), by skip; repeat (first | exact List.nil_sublist _ | exact List.Sublist.refl _ | apply List.Sublist.cons_cons | apply List.Sublist.cons)⟩ ?_ ?_
  · skip
    exact ⟨Nat.zero_le _, hJ0⟩
  rintro ⟨n, Hc⟩
  rintro ⟨hn, hJ⟩
  show TC _ _ _ (Env.of [(0, .v (.func (.yield q) #[] #[])), (1, .at_ [.sl 1 (encI l)]), (3, .v (.int .i64 ((l.length : Int) - 1 - n)))]) Hc
  (iterate 2 refine TC.seq ?_); refine TC.region ?_; refine TL.run1 (pure_move rfl) rfl ?_; refine TL.run1 (pure_geq rfl rfl) rfl ?_; refine TL.nil' ?_; refine TC.condD rfl (fun hc8 => ?_) (fun hc8 => ?_)
  · try dsimp only at hc8
    refine TC.skip' ?_; refine TC.seq ?_; refine TC.block ?_; refine TC.seq ?_
    have hrow := encI_get l ((l.length : Int) - 1 - n) (by omega) (by omega)
    have hxn := encBk_get l n (by omega)
    refine TC.region ?_; (iterate 2 refine TL.run1 (pure_move rfl) rfl ?_); refine TL.run1 (pure_load1 Ty.one35 rfl) rfl ?_; refine TL.run1 (pure_move rfl) rfl ?_; refine TL.run1 (pure_indexAddr Ty.sl35 rfl rfl (by omega) hrow (List.cons_ne_nil _ _)) rfl ?_; refine TL.run1 (pure_load1 Ty.one3 rfl) rfl ?_; refine TL.yield rfl (SplitR.all _) rfl (hy n _ Hc hxn hJ) (.cons rfl (.cons rfl .nil)) (by intro t ht; cases ht; exact (by decide : (17 : Nat) < 19)) (fun bb H1 hR => ?_)
    rw [List.append_nil]
    refine TL.run1 (pure_not rfl) rfl ?_; refine TL.nil' ?_; refine TC.cond rfl (fun hc18 => ?_) (fun hc18 => ?_)
    · try dsimp only at hc18
      have hcy : bb = false := by simpa using hc18
      refine TC.ret ?_; refine block_ret ?_; refine then_ret ?_; refine loop_ret ?_; refine block_ret ?_
      exact ⟨.inl rfl, [], .nil, H1, List.Sublist.refl _, .inr ⟨n + 1, by (have h := hR; simp only [hcy, Bool.false_eq_true, if_false] at h; exact h)⟩⟩
    · try dsimp only at hc18
      have hcy : bb = true := by simpa using hc18
      refine TC.skip ?_; refine block_normal ?_; refine then_normal ?_; refine TC.region ?_; refine TL.run1 (pure_move rfl) rfl ?_; refine TL.run1 (pure_sub rfl rfl (mkI64 (by omega) (by omega))) rfl ?_; refine TL.run1 (pure_assign rfl) rfl ?_; refine TL.nil ?_; refine loop_next (n + 1, H1) ⟨by (dsimp only; rw [show ((l.length : Int) - 1 - ((n + 1 : Nat) : Int)) = (l.length : Int) - 1 - n - 1 by omega]; repeat (first | exact Agree.nil | refine Agree.cons rfl ?_)), by repeat (first | exact List.nil_sublist _ | exact List.Sublist.refl _ | apply List.Sublist.cons_cons | apply List.Sublist.cons)⟩ ⟨by omega, by (have h := hR; simp only [hcy, if_true] at h; exact h)⟩ (by dsimp only; omega)
  · try dsimp only at hc8
    refine TC.exit ?_; refine then_exit ?_; refine loop_exit ?_; refine block_here ?_
    have hend : n = (encBk l).length := by rw [encBk_len]; omega
    exact ⟨.inr rfl, [], .nil, Hc, List.Sublist.refl _, .inl (hend ▸ hJ)⟩
set_option maxRecDepth 100000 in
theorem back_spec (l : List Int) : Fun Tryd.prog 52 [.sl 1 (encI l)] (.fn 77 [.at_ [.sl 1 (encI l)]]) := by
  refine Fun.enterF (n := 4) (rs := [.tmp 2]) Tryd.func52 rfl Tryd.ntmps52 Tryd.results52 rfl (fun w F => ?_); refine TC.seq ?_; refine TC.region ?_; refine TL.box rfl (.one rfl) rfl (fun g1 => ?_); refine TL.run1 (pure_assign rfl) rfl ?_; refine TL.nil' ?_; refine TC.seq ?_; refine TC.region ?_; refine TL.run1 (pure_makeFunc (.cons rfl .nil)) rfl ?_; refine TL.run1 (pure_assign rfl) rfl ?_; refine TL.nil' ?_; refine TC.ret ?_
  exact retF1 (.inl rfl) rfl (.fnL (.cons (.boxS (by repeat (first | exact List.Mem.head _ | apply List.Mem.tail)) (List.cons_ne_nil _ _)) .nil))
end Go.Ob
