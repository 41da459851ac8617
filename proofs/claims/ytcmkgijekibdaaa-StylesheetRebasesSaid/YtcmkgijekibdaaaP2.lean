import Derived.Test.YtcmkgijekibdaaaP1
import Derived.Test.YtcmkgijekibdaaaObO
import Derived.Test.YtcmkgijekibdaaaObS
set_option linter.unusedVariables false
set_option linter.unusedSimpArgs false
namespace Go.Ob
open Go.Proofs

def encI (l : List Int) : List (List D) := l.map fun x => [.v (.int .i64 x)]
def iAt (l : List Int) (i : Int) : Int := l.getD i.toNat 0
theorem encI_len (l : List Int) : (encI l).length = l.length := by simp [encI]
theorem encI_get (l : List Int) (i : Int) (h0 : 0 ≤ i) (h1 : i < l.length) : (encI l)[i.toNat]? = some [.v (.int .i64 (iAt l i))] := by
  have : i.toNat < l.length := by omega
  simp [encI, iAt, this]
theorem encI_snoc (l : List Int) (a : Int) : encI (l ++ [a]) = encI l ++ [[.v (.int .i64 a)]] := by simp [encI]
theorem encI_each (l : List Int) : ∀ x ∈ encI l, x.length = 1 := by
  intro x hx; simp only [encI, List.mem_map] at hx; obtain ⟨s, _, rfl⟩ := hx; rfl
theorem encP_snoc (l : List (Int × Int)) (a b : Int) : encP (l ++ [(a, b)]) = encP l ++ [[.v (.int .i64 a), .v (.int .i64 b)]] := by simp [encP]
theorem encP_snoc' (l : List (Int × Int)) (p : Int × Int) : encP (l ++ [p]) = encP l ++ [[.v (.int .i64 p.1), .v (.int .i64 p.2)]] := by simp [encP]
theorem encP_append (l m : List (Int × Int)) : encP (l ++ m) = encP l ++ encP m := by simp [encP]
theorem encP_each (l : List (Int × Int)) : ∀ x ∈ encP l, x.length = 2 := by
  intro x hx; simp only [encP, List.mem_map] at hx; obtain ⟨s, _, rfl⟩ := hx; rfl
theorem encP_drop (l : List (Int × Int)) (n : Nat) : (encP l).drop n = encP (l.drop n) := by simp [encP]
theorem encP_take (l : List (Int × Int)) (n : Nat) : (encP l).take n = encP (l.take n) := by simp [encP]
/-! ### the groups of an element; fits -/
def groupsOf (e : Int) : List Int := if e = 1 ∨ e = 4 ∨ e = 5 ∨ e = 6 then [1] else if e = 2 then [1, 2] else if e = 3 then [3] else if e = 7 then [6] else if e = 9 then [4] else if e = 10 then [5] else []
def fitsP (e key : Int) : Bool := inI (keysK tableK) key && decide ((findK key).group ∈ groupsOf e)
def idxN (l : List Int) (v : Int) : Int := if v ∈ l then (l.idxOf v : Int) else -1
theorem idxN_ge (l : List Int) (v : Int) : idxN l v ≥ 0 ↔ v ∈ l := by
  unfold idxN; split
  · rename_i h; exact ⟨fun _ => h, fun _ => by omega⟩
  · rename_i h; exact ⟨fun h2 => by omega, fun h2 => absurd h2 h⟩
theorem idxN_at (l : List Int) (v : Int) : ∀ (i : Int), 0 ≤ i → i < l.length → iAt l i = v → (∀ j : Int, 0 ≤ j → j < i → iAt l j ≠ v) → idxN l v = i := by
  have key : ∀ (l : List Int) (n : Nat), n < l.length → l.getD n 0 = v → (∀ m, m < n → l.getD m 0 ≠ v) → v ∈ l ∧ l.idxOf v = n := by
    intro l
    induction l with
    | nil => intro n h; simp at h
    | cons a l ih =>
      intro n hn h hm
      cases n with
      | zero => simp at h; subst h; simp
      | succ n =>
        have ha := hm 0 (by omega)
        simp only [List.getD_cons_zero] at ha
        obtain ⟨h1, h2⟩ := ih n (by simpa using hn) (by simpa using h) (fun m hm' => by have := hm (m + 1) (by omega); simpa using this)
        exact ⟨List.mem_cons_of_mem _ h1, by rw [List.idxOf_cons, h2, show (a == v) = false by simpa using ha]; rfl⟩
  intro i h0 h1 h2 h3
  obtain ⟨k1, k2⟩ := key l i.toNat (by omega) h2 (fun m hm => by have := h3 m (by omega) (by omega); simpa [iAt] using this)
  unfold idxN
  rw [if_pos k1, k2]; omega
theorem idxN_none (l : List Int) (v : Int) (h : ∀ j : Int, 0 ≤ j → j < l.length → iAt l j ≠ v) : idxN l v = -1 := by
  unfold idxN
  rw [if_neg]
  intro hv
  obtain ⟨n, hn, rfl⟩ := List.getElem_of_mem hv
  have := h n (by omega) (by omega)
  simp [iAt, hn] at this
/-! ### the first error -/
def firstErr (f : Int → Int) : Nat → Int
  | 0 => 0
  | n + 1 => if firstErr f n ≠ 0 then firstErr f n else f n
theorem firstErr_zero (f : Int → Int) : ∀ (n : Nat), (∀ j : Int, 0 ≤ j → j < n → f j = 0) → firstErr f n = 0
  | 0, _ => rfl
  | n + 1, h => by
    have h1 := firstErr_zero f n fun j a b => h j a (by omega)
    rw [firstErr, if_neg (by simpa using h1), h n (by omega) (by omega)]
theorem firstErr_at (f : Int → Int) (i : Int) (h0 : 0 ≤ i) (hz : ∀ j : Int, 0 ≤ j → j < i → f j = 0) (hne : f i ≠ 0) : ∀ (n : Nat), i < n → firstErr f n = f i
  | 0, h => by omega
  | n + 1, h => by
    by_cases hi : i < n
    · have h1 := firstErr_at f i h0 hz hne n hi
      rw [firstErr, if_pos (by rw [h1]; exact hne), h1]
    · have h1 := firstErr_zero f n fun j a b => hz j a (by omega)
      rw [firstErr, if_neg (by simpa using h1), show (n : Int) = i by omega]
def checkV (key value : Int) : Int := if inI (keysK tableK) key = false then 4 else if value < (findK key).low ∨ value > (findK key).high then 5 else 0
def errAt (e : Int) (ps : List (Int × Int)) (i : Int) : Int :=
  if fitsP e (pAt ps i).1 = false then 4 else if i > 0 ∧ (pAt ps i).1 = (pAt ps (i - 1)).1 then 7 else if i > 0 ∧ (pAt ps i).1 < (pAt ps (i - 1)).1 then 6
  else checkV (pAt ps i).1 (pAt ps i).2
def checkP (e : Int) (ps : List (Int × Int)) : Int := if e < 1 ∨ e > 10 then 3 else firstErr (errAt e ps) ps.length
/-! ### keys of a group, key with a name -/
def keysTo (g : Int) : Nat → List Int
  | 0 => []
  | i + 1 => if (eAt tableK i).group = g then keysTo g i ++ [(eAt tableK i).num] else keysTo g i
def keysG (g : Int) : List Int := keysTo g 45
theorem keysTo_len (g : Int) : ∀ i, (keysTo g i).length ≤ i
  | 0 => by simp [keysTo]
  | i + 1 => by
    have := keysTo_len g i
    unfold keysTo; split <;> simp <;> omega
def namedK (name : ByteArray) : Int := ((tableK.find? (fun k => decide (k.name = name))).map (·.num)).getD 0
theorem named_at (name : ByteArray) (i : Int) (h0 : 0 ≤ i) (h1 : i < 45) (h : (eAt tableK i).name = name) (hn : ∀ j : Int, 0 ≤ j → j < i → (eAt tableK j).name ≠ name) : namedK name = (eAt tableK i).num := by
  have hl : i.toNat < tableK.length := by rw [tableK_len]; omega
  have : tableK.find? (fun k => decide (k.name = name)) = some (eAt tableK i) := by
    rw [List.find?_eq_some_iff_getElem]
    refine ⟨by simpa using h, i.toNat, hl, ?_, fun j hj => ?_⟩
    · simp [eAt, hl]
    · have := hn j (by omega) (by omega)
      simp only [eAt, Int.toNat_natCast, List.getD_eq_getElem?_getD, List.getElem?_eq_getElem (show j < tableK.length by omega), Option.getD_some] at this
      simpa using this
  unfold namedK; rw [this]; rfl
theorem named_none (name : ByteArray) (hn : ∀ j : Int, 0 ≤ j → j < 45 → (eAt tableK j).name ≠ name) : namedK name = 0 := by
  have : tableK.find? (fun k => decide (k.name = name)) = none := by
    rw [List.find?_eq_none]
    intro k hk
    obtain ⟨j, hj, rfl⟩ := List.getElem_of_mem hk
    have := hn j (by omega) (by rw [tableK_len] at hj; omega)
    simp only [eAt, Int.toNat_natCast, List.getD_eq_getElem?_getD, List.getElem?_eq_getElem hj, Option.getD_some] at this
    simpa using this
  unfold namedK; rw [this]; rfl
theorem tableK_num (i : Int) (h0 : 0 ≤ i) (h1 : i < 45) : (eAt tableK i).num ≠ 0 := by
  have hall : tableK.all (fun k => decide (k.num ≠ 0)) = true := by decide
  have hl : i.toNat < tableK.length := by rw [tableK_len]; omega
  have := List.all_eq_true.1 hall (eAt tableK i) (by simp [eAt, hl])
  simpa using this
theorem find_in (key : Int) (h : inI (keysK tableK) key = true) : findK key ∈ tableK := by
  unfold findK
  rw [if_pos h]
  have : lbI (keysK tableK) key < (keysK tableK).length := by have := of_decide_eq_true h; exact this.1
  rw [keysK_len] at this
  simp [eAt, this]
theorem std_ok (key : Int) : checkV key (findK key).std = 0 ∨ inI (keysK tableK) key = false := by
  cases h : inI (keysK tableK) key with
  | false => exact .inr rfl
  | true =>
    have hall : tableK.all (fun k => decide (k.low ≤ k.std) && decide (k.std ≤ k.high)) = true := by decide
    have := List.all_eq_true.1 hall _ (find_in key h)
    simp only [Bool.and_eq_true, decide_eq_true_eq] at this
    refine .inl ?_
    unfold checkV
    rw [h, if_neg (by simp), if_neg (by omega)]
theorem findK_at (key : Int) (i : Int) (h0 : 0 ≤ i) (h1 : i < 45) (h : (eAt tableK i).num = key) : inI (keysK tableK) key = true ∧ findK key = eAt tableK i := by
  have hl : i.toNat < tableK.length := by rw [tableK_len]; omega
  have hkl : (keysK tableK).length = 45 := by rw [keysK_len, tableK_len]
  have hk : kAt (keysK tableK) i.toNat = key := by rw [kAt_keysK _ _ hl, show ((i.toNat : Nat) : Int) = i by omega]; exact h
  have hlb : lbI (keysK tableK) key = i.toNat := lbI_eq _ _ _ (by omega) (fun j hj => by rw [← hk]; exact tableK_inc.lt hj (by omega)) (fun _ => by omega)
  have hin : inI (keysK tableK) key = true := by unfold inI; rw [hlb, hk]; simp; omega
  refine ⟨hin, ?_⟩
  unfold findK
  rw [if_pos hin, hlb, show ((i.toNat : Nat) : Int) = i by omega]
theorem findK_none (key : Int) (h : ∀ j : Int, 0 ≤ j → j < 45 → (eAt tableK j).num ≠ key) : inI (keysK tableK) key = false := by
  cases hin : inI (keysK tableK) key with
  | false => rfl
  | true =>
    have h2 := of_decide_eq_true hin
    rw [keysK_len, tableK_len] at h2
    have h3 := h2.2
    rw [kAt_keysK _ _ (by rw [tableK_len]; omega)] at h3
    exact absurd h3 (h _ (by omega) (by omega))
set_option maxRecDepth 100000 in
theorem Table_spec  : Fun Try.prog 43 [] (.sl 6 (encK tableK)) := by
  refine Fun.enter (n := 47) (rs := [.tmp 0]) Try.func43 rfl Try.ntmps43 Try.results43 rfl (fun w F => ?_)
  refine TC.seq ?_; refine TC.region ?_; refine TL.run1 (pure_assign rfl) rfl ?_; refine TL.nil' ?_; refine TC.seq ?_; refine TC.region ?_; refine TL.run1 (pure_build Ty.pl40 Ty.zero40 (.cons rfl rfl (.one rfl) rfl (.here (.nil _)) (.cons rfl rfl (.one rfl) rfl (.skip (.here (.nil _))) (.cons rfl rfl (.one rfl) rfl (.skip (.skip (.here (.nil _)))) (.cons rfl rfl (.one rfl) rfl (.skip (.skip (.skip (.here (.nil _))))) (.cons rfl rfl (.one rfl) rfl (.skip (.skip (.skip (.skip (.here (.nil _)))))) (.cons rfl rfl (.one rfl) rfl (.skip (.skip (.skip (.skip (.skip (.here (.nil _))))))) (.nil _)))))))) rfl ?_; refine TL.run1 (pure_build Ty.pl40 Ty.zero40 (.cons rfl rfl (.one rfl) rfl (.here (.nil _)) (.cons rfl rfl (.one rfl) rfl (.skip (.here (.nil _))) (.cons rfl rfl (.one rfl) rfl (.skip (.skip (.here (.nil _)))) (.cons rfl rfl (.one rfl) rfl (.skip (.skip (.skip (.here (.nil _))))) (.cons rfl rfl (.one rfl) rfl (.skip (.skip (.skip (.skip (.here (.nil _)))))) (.cons rfl rfl (.one rfl) rfl (.skip (.skip (.skip (.skip (.skip (.here (.nil _))))))) (.nil _)))))))) rfl ?_; refine TL.run1 (pure_build Ty.pl40 Ty.zero40 (.cons rfl rfl (.one rfl) rfl (.here (.nil _)) (.cons rfl rfl (.one rfl) rfl (.skip (.here (.nil _))) (.cons rfl rfl (.one rfl) rfl (.skip (.skip (.here (.nil _)))) (.cons rfl rfl (.one rfl) rfl (.skip (.skip (.skip (.here (.nil _))))) (.cons rfl rfl (.one rfl) rfl (.skip (.skip (.skip (.skip (.here (.nil _)))))) (.cons rfl rfl (.one rfl) rfl (.skip (.skip (.skip (.skip (.skip (.here (.nil _))))))) (.nil _)))))))) rfl ?_; refine TL.run1 (pure_build Ty.pl40 Ty.zero40 (.cons rfl rfl (.one rfl) rfl (.here (.nil _)) (.cons rfl rfl (.one rfl) rfl (.skip (.here (.nil _))) (.cons rfl rfl (.one rfl) rfl (.skip (.skip (.here (.nil _)))) (.cons rfl rfl (.one rfl) rfl (.skip (.skip (.skip (.here (.nil _))))) (.cons rfl rfl (.one rfl) rfl (.skip (.skip (.skip (.skip (.here (.nil _)))))) (.cons rfl rfl (.one rfl) rfl (.skip (.skip (.skip (.skip (.skip (.here (.nil _))))))) (.nil _)))))))) rfl ?_; refine TL.run1 (pure_build Ty.pl40 Ty.zero40 (.cons rfl rfl (.one rfl) rfl (.here (.nil _)) (.cons rfl rfl (.one rfl) rfl (.skip (.here (.nil _))) (.cons rfl rfl (.one rfl) rfl (.skip (.skip (.here (.nil _)))) (.cons rfl rfl (.one rfl) rfl (.skip (.skip (.skip (.here (.nil _))))) (.cons rfl rfl (.one rfl) rfl (.skip (.skip (.skip (.skip (.here (.nil _)))))) (.cons rfl rfl (.one rfl) rfl (.skip (.skip (.skip (.skip (.skip (.here (.nil _))))))) (.nil _)))))))) rfl ?_; refine TL.run1 (pure_build Ty.pl40 Ty.zero40 (.cons rfl rfl (.one rfl) rfl (.here (.nil _)) (.cons rfl rfl (.one rfl) rfl (.skip (.here (.nil _))) (.cons rfl rfl (.one rfl) rfl (.skip (.skip (.here (.nil _)))) (.cons rfl rfl (.one rfl) rfl (.skip (.skip (.skip (.here (.nil _))))) (.cons rfl rfl (.one rfl) rfl (.skip (.skip (.skip (.skip (.here (.nil _)))))) (.cons rfl rfl (.one rfl) rfl (.skip (.skip (.skip (.skip (.skip (.here (.nil _))))))) (.nil _)))))))) rfl ?_; refine TL.run1 (pure_build Ty.pl40 Ty.zero40 (.cons rfl rfl (.one rfl) rfl (.here (.nil _)) (.cons rfl rfl (.one rfl) rfl (.skip (.here (.nil _))) (.cons rfl rfl (.one rfl) rfl (.skip (.skip (.here (.nil _)))) (.cons rfl rfl (.one rfl) rfl (.skip (.skip (.skip (.here (.nil _))))) (.cons rfl rfl (.one rfl) rfl (.skip (.skip (.skip (.skip (.here (.nil _)))))) (.cons rfl rfl (.one rfl) rfl (.skip (.skip (.skip (.skip (.skip (.here (.nil _))))))) (.nil _)))))))) rfl ?_; refine TL.run1 (pure_build Ty.pl40 Ty.zero40 (.cons rfl rfl (.one rfl) rfl (.here (.nil _)) (.cons rfl rfl (.one rfl) rfl (.skip (.here (.nil _))) (.cons rfl rfl (.one rfl) rfl (.skip (.skip (.here (.nil _)))) (.cons rfl rfl (.one rfl) rfl (.skip (.skip (.skip (.here (.nil _))))) (.cons rfl rfl (.one rfl) rfl (.skip (.skip (.skip (.skip (.here (.nil _)))))) (.cons rfl rfl (.one rfl) rfl (.skip (.skip (.skip (.skip (.skip (.here (.nil _))))))) (.nil _)))))))) rfl ?_; refine TL.run1 (pure_build Ty.pl40 Ty.zero40 (.cons rfl rfl (.one rfl) rfl (.here (.nil _)) (.cons rfl rfl (.one rfl) rfl (.skip (.here (.nil _))) (.cons rfl rfl (.one rfl) rfl (.skip (.skip (.here (.nil _)))) (.cons rfl rfl (.one rfl) rfl (.skip (.skip (.skip (.here (.nil _))))) (.cons rfl rfl (.one rfl) rfl (.skip (.skip (.skip (.skip (.here (.nil _)))))) (.cons rfl rfl (.one rfl) rfl (.skip (.skip (.skip (.skip (.skip (.here (.nil _))))))) (.nil _)))))))) rfl ?_
  refine TL.run1 (pure_build Ty.pl40 Ty.zero40 (.cons rfl rfl (.one rfl) rfl (.here (.nil _)) (.cons rfl rfl (.one rfl) rfl (.skip (.here (.nil _))) (.cons rfl rfl (.one rfl) rfl (.skip (.skip (.here (.nil _)))) (.cons rfl rfl (.one rfl) rfl (.skip (.skip (.skip (.here (.nil _))))) (.cons rfl rfl (.one rfl) rfl (.skip (.skip (.skip (.skip (.here (.nil _)))))) (.cons rfl rfl (.one rfl) rfl (.skip (.skip (.skip (.skip (.skip (.here (.nil _))))))) (.nil _)))))))) rfl ?_; refine TL.run1 (pure_build Ty.pl40 Ty.zero40 (.cons rfl rfl (.one rfl) rfl (.here (.nil _)) (.cons rfl rfl (.one rfl) rfl (.skip (.here (.nil _))) (.cons rfl rfl (.one rfl) rfl (.skip (.skip (.here (.nil _)))) (.cons rfl rfl (.one rfl) rfl (.skip (.skip (.skip (.here (.nil _))))) (.cons rfl rfl (.one rfl) rfl (.skip (.skip (.skip (.skip (.here (.nil _)))))) (.cons rfl rfl (.one rfl) rfl (.skip (.skip (.skip (.skip (.skip (.here (.nil _))))))) (.nil _)))))))) rfl ?_; refine TL.run1 (pure_build Ty.pl40 Ty.zero40 (.cons rfl rfl (.one rfl) rfl (.here (.nil _)) (.cons rfl rfl (.one rfl) rfl (.skip (.here (.nil _))) (.cons rfl rfl (.one rfl) rfl (.skip (.skip (.here (.nil _)))) (.cons rfl rfl (.one rfl) rfl (.skip (.skip (.skip (.here (.nil _))))) (.cons rfl rfl (.one rfl) rfl (.skip (.skip (.skip (.skip (.here (.nil _)))))) (.cons rfl rfl (.one rfl) rfl (.skip (.skip (.skip (.skip (.skip (.here (.nil _))))))) (.nil _)))))))) rfl ?_; refine TL.run1 (pure_build Ty.pl40 Ty.zero40 (.cons rfl rfl (.one rfl) rfl (.here (.nil _)) (.cons rfl rfl (.one rfl) rfl (.skip (.here (.nil _))) (.cons rfl rfl (.one rfl) rfl (.skip (.skip (.here (.nil _)))) (.cons rfl rfl (.one rfl) rfl (.skip (.skip (.skip (.here (.nil _))))) (.cons rfl rfl (.one rfl) rfl (.skip (.skip (.skip (.skip (.here (.nil _)))))) (.cons rfl rfl (.one rfl) rfl (.skip (.skip (.skip (.skip (.skip (.here (.nil _))))))) (.nil _)))))))) rfl ?_; refine TL.run1 (pure_build Ty.pl40 Ty.zero40 (.cons rfl rfl (.one rfl) rfl (.here (.nil _)) (.cons rfl rfl (.one rfl) rfl (.skip (.here (.nil _))) (.cons rfl rfl (.one rfl) rfl (.skip (.skip (.here (.nil _)))) (.cons rfl rfl (.one rfl) rfl (.skip (.skip (.skip (.here (.nil _))))) (.cons rfl rfl (.one rfl) rfl (.skip (.skip (.skip (.skip (.here (.nil _)))))) (.cons rfl rfl (.one rfl) rfl (.skip (.skip (.skip (.skip (.skip (.here (.nil _))))))) (.nil _)))))))) rfl ?_; refine TL.run1 (pure_build Ty.pl40 Ty.zero40 (.cons rfl rfl (.one rfl) rfl (.here (.nil _)) (.cons rfl rfl (.one rfl) rfl (.skip (.here (.nil _))) (.cons rfl rfl (.one rfl) rfl (.skip (.skip (.here (.nil _)))) (.cons rfl rfl (.one rfl) rfl (.skip (.skip (.skip (.here (.nil _))))) (.cons rfl rfl (.one rfl) rfl (.skip (.skip (.skip (.skip (.here (.nil _)))))) (.cons rfl rfl (.one rfl) rfl (.skip (.skip (.skip (.skip (.skip (.here (.nil _))))))) (.nil _)))))))) rfl ?_; refine TL.run1 (pure_build Ty.pl40 Ty.zero40 (.cons rfl rfl (.one rfl) rfl (.here (.nil _)) (.cons rfl rfl (.one rfl) rfl (.skip (.here (.nil _))) (.cons rfl rfl (.one rfl) rfl (.skip (.skip (.here (.nil _)))) (.cons rfl rfl (.one rfl) rfl (.skip (.skip (.skip (.here (.nil _))))) (.cons rfl rfl (.one rfl) rfl (.skip (.skip (.skip (.skip (.here (.nil _)))))) (.cons rfl rfl (.one rfl) rfl (.skip (.skip (.skip (.skip (.skip (.here (.nil _))))))) (.nil _)))))))) rfl ?_; refine TL.run1 (pure_build Ty.pl40 Ty.zero40 (.cons rfl rfl (.one rfl) rfl (.here (.nil _)) (.cons rfl rfl (.one rfl) rfl (.skip (.here (.nil _))) (.cons rfl rfl (.one rfl) rfl (.skip (.skip (.here (.nil _)))) (.cons rfl rfl (.one rfl) rfl (.skip (.skip (.skip (.here (.nil _))))) (.cons rfl rfl (.one rfl) rfl (.skip (.skip (.skip (.skip (.here (.nil _)))))) (.cons rfl rfl (.one rfl) rfl (.skip (.skip (.skip (.skip (.skip (.here (.nil _))))))) (.nil _)))))))) rfl ?_; refine TL.run1 (pure_build Ty.pl40 Ty.zero40 (.cons rfl rfl (.one rfl) rfl (.here (.nil _)) (.cons rfl rfl (.one rfl) rfl (.skip (.here (.nil _))) (.cons rfl rfl (.one rfl) rfl (.skip (.skip (.here (.nil _)))) (.cons rfl rfl (.one rfl) rfl (.skip (.skip (.skip (.here (.nil _))))) (.cons rfl rfl (.one rfl) rfl (.skip (.skip (.skip (.skip (.here (.nil _)))))) (.cons rfl rfl (.one rfl) rfl (.skip (.skip (.skip (.skip (.skip (.here (.nil _))))))) (.nil _)))))))) rfl ?_
  refine TL.run1 (pure_build Ty.pl40 Ty.zero40 (.cons rfl rfl (.one rfl) rfl (.here (.nil _)) (.cons rfl rfl (.one rfl) rfl (.skip (.here (.nil _))) (.cons rfl rfl (.one rfl) rfl (.skip (.skip (.here (.nil _)))) (.cons rfl rfl (.one rfl) rfl (.skip (.skip (.skip (.here (.nil _))))) (.cons rfl rfl (.one rfl) rfl (.skip (.skip (.skip (.skip (.here (.nil _)))))) (.cons rfl rfl (.one rfl) rfl (.skip (.skip (.skip (.skip (.skip (.here (.nil _))))))) (.nil _)))))))) rfl ?_; refine TL.run1 (pure_build Ty.pl40 Ty.zero40 (.cons rfl rfl (.one rfl) rfl (.here (.nil _)) (.cons rfl rfl (.one rfl) rfl (.skip (.here (.nil _))) (.cons rfl rfl (.one rfl) rfl (.skip (.skip (.here (.nil _)))) (.cons rfl rfl (.one rfl) rfl (.skip (.skip (.skip (.here (.nil _))))) (.cons rfl rfl (.one rfl) rfl (.skip (.skip (.skip (.skip (.here (.nil _)))))) (.cons rfl rfl (.one rfl) rfl (.skip (.skip (.skip (.skip (.skip (.here (.nil _))))))) (.nil _)))))))) rfl ?_; refine TL.run1 (pure_build Ty.pl40 Ty.zero40 (.cons rfl rfl (.one rfl) rfl (.here (.nil _)) (.cons rfl rfl (.one rfl) rfl (.skip (.here (.nil _))) (.cons rfl rfl (.one rfl) rfl (.skip (.skip (.here (.nil _)))) (.cons rfl rfl (.one rfl) rfl (.skip (.skip (.skip (.here (.nil _))))) (.cons rfl rfl (.one rfl) rfl (.skip (.skip (.skip (.skip (.here (.nil _)))))) (.cons rfl rfl (.one rfl) rfl (.skip (.skip (.skip (.skip (.skip (.here (.nil _))))))) (.nil _)))))))) rfl ?_; refine TL.run1 (pure_build Ty.pl40 Ty.zero40 (.cons rfl rfl (.one rfl) rfl (.here (.nil _)) (.cons rfl rfl (.one rfl) rfl (.skip (.here (.nil _))) (.cons rfl rfl (.one rfl) rfl (.skip (.skip (.here (.nil _)))) (.cons rfl rfl (.one rfl) rfl (.skip (.skip (.skip (.here (.nil _))))) (.cons rfl rfl (.one rfl) rfl (.skip (.skip (.skip (.skip (.here (.nil _)))))) (.cons rfl rfl (.one rfl) rfl (.skip (.skip (.skip (.skip (.skip (.here (.nil _))))))) (.nil _)))))))) rfl ?_; refine TL.run1 (pure_build Ty.pl40 Ty.zero40 (.cons rfl rfl (.one rfl) rfl (.here (.nil _)) (.cons rfl rfl (.one rfl) rfl (.skip (.here (.nil _))) (.cons rfl rfl (.one rfl) rfl (.skip (.skip (.here (.nil _)))) (.cons rfl rfl (.one rfl) rfl (.skip (.skip (.skip (.here (.nil _))))) (.cons rfl rfl (.one rfl) rfl (.skip (.skip (.skip (.skip (.here (.nil _)))))) (.cons rfl rfl (.one rfl) rfl (.skip (.skip (.skip (.skip (.skip (.here (.nil _))))))) (.nil _)))))))) rfl ?_; refine TL.run1 (pure_build Ty.pl40 Ty.zero40 (.cons rfl rfl (.one rfl) rfl (.here (.nil _)) (.cons rfl rfl (.one rfl) rfl (.skip (.here (.nil _))) (.cons rfl rfl (.one rfl) rfl (.skip (.skip (.here (.nil _)))) (.cons rfl rfl (.one rfl) rfl (.skip (.skip (.skip (.here (.nil _))))) (.cons rfl rfl (.one rfl) rfl (.skip (.skip (.skip (.skip (.here (.nil _)))))) (.cons rfl rfl (.one rfl) rfl (.skip (.skip (.skip (.skip (.skip (.here (.nil _))))))) (.nil _)))))))) rfl ?_; refine TL.run1 (pure_build Ty.pl40 Ty.zero40 (.cons rfl rfl (.one rfl) rfl (.here (.nil _)) (.cons rfl rfl (.one rfl) rfl (.skip (.here (.nil _))) (.cons rfl rfl (.one rfl) rfl (.skip (.skip (.here (.nil _)))) (.cons rfl rfl (.one rfl) rfl (.skip (.skip (.skip (.here (.nil _))))) (.cons rfl rfl (.one rfl) rfl (.skip (.skip (.skip (.skip (.here (.nil _)))))) (.cons rfl rfl (.one rfl) rfl (.skip (.skip (.skip (.skip (.skip (.here (.nil _))))))) (.nil _)))))))) rfl ?_; refine TL.run1 (pure_build Ty.pl40 Ty.zero40 (.cons rfl rfl (.one rfl) rfl (.here (.nil _)) (.cons rfl rfl (.one rfl) rfl (.skip (.here (.nil _))) (.cons rfl rfl (.one rfl) rfl (.skip (.skip (.here (.nil _)))) (.cons rfl rfl (.one rfl) rfl (.skip (.skip (.skip (.here (.nil _))))) (.cons rfl rfl (.one rfl) rfl (.skip (.skip (.skip (.skip (.here (.nil _)))))) (.cons rfl rfl (.one rfl) rfl (.skip (.skip (.skip (.skip (.skip (.here (.nil _))))))) (.nil _)))))))) rfl ?_; refine TL.run1 (pure_build Ty.pl40 Ty.zero40 (.cons rfl rfl (.one rfl) rfl (.here (.nil _)) (.cons rfl rfl (.one rfl) rfl (.skip (.here (.nil _))) (.cons rfl rfl (.one rfl) rfl (.skip (.skip (.here (.nil _)))) (.cons rfl rfl (.one rfl) rfl (.skip (.skip (.skip (.here (.nil _))))) (.cons rfl rfl (.one rfl) rfl (.skip (.skip (.skip (.skip (.here (.nil _)))))) (.cons rfl rfl (.one rfl) rfl (.skip (.skip (.skip (.skip (.skip (.here (.nil _))))))) (.nil _)))))))) rfl ?_
  refine TL.run1 (pure_build Ty.pl40 Ty.zero40 (.cons rfl rfl (.one rfl) rfl (.here (.nil _)) (.cons rfl rfl (.one rfl) rfl (.skip (.here (.nil _))) (.cons rfl rfl (.one rfl) rfl (.skip (.skip (.here (.nil _)))) (.cons rfl rfl (.one rfl) rfl (.skip (.skip (.skip (.here (.nil _))))) (.cons rfl rfl (.one rfl) rfl (.skip (.skip (.skip (.skip (.here (.nil _)))))) (.cons rfl rfl (.one rfl) rfl (.skip (.skip (.skip (.skip (.skip (.here (.nil _))))))) (.nil _)))))))) rfl ?_; refine TL.run1 (pure_build Ty.pl40 Ty.zero40 (.cons rfl rfl (.one rfl) rfl (.here (.nil _)) (.cons rfl rfl (.one rfl) rfl (.skip (.here (.nil _))) (.cons rfl rfl (.one rfl) rfl (.skip (.skip (.here (.nil _)))) (.cons rfl rfl (.one rfl) rfl (.skip (.skip (.skip (.here (.nil _))))) (.cons rfl rfl (.one rfl) rfl (.skip (.skip (.skip (.skip (.here (.nil _)))))) (.cons rfl rfl (.one rfl) rfl (.skip (.skip (.skip (.skip (.skip (.here (.nil _))))))) (.nil _)))))))) rfl ?_; refine TL.run1 (pure_build Ty.pl40 Ty.zero40 (.cons rfl rfl (.one rfl) rfl (.here (.nil _)) (.cons rfl rfl (.one rfl) rfl (.skip (.here (.nil _))) (.cons rfl rfl (.one rfl) rfl (.skip (.skip (.here (.nil _)))) (.cons rfl rfl (.one rfl) rfl (.skip (.skip (.skip (.here (.nil _))))) (.cons rfl rfl (.one rfl) rfl (.skip (.skip (.skip (.skip (.here (.nil _)))))) (.cons rfl rfl (.one rfl) rfl (.skip (.skip (.skip (.skip (.skip (.here (.nil _))))))) (.nil _)))))))) rfl ?_; refine TL.run1 (pure_build Ty.pl40 Ty.zero40 (.cons rfl rfl (.one rfl) rfl (.here (.nil _)) (.cons rfl rfl (.one rfl) rfl (.skip (.here (.nil _))) (.cons rfl rfl (.one rfl) rfl (.skip (.skip (.here (.nil _)))) (.cons rfl rfl (.one rfl) rfl (.skip (.skip (.skip (.here (.nil _))))) (.cons rfl rfl (.one rfl) rfl (.skip (.skip (.skip (.skip (.here (.nil _)))))) (.cons rfl rfl (.one rfl) rfl (.skip (.skip (.skip (.skip (.skip (.here (.nil _))))))) (.nil _)))))))) rfl ?_; refine TL.run1 (pure_build Ty.pl40 Ty.zero40 (.cons rfl rfl (.one rfl) rfl (.here (.nil _)) (.cons rfl rfl (.one rfl) rfl (.skip (.here (.nil _))) (.cons rfl rfl (.one rfl) rfl (.skip (.skip (.here (.nil _)))) (.cons rfl rfl (.one rfl) rfl (.skip (.skip (.skip (.here (.nil _))))) (.cons rfl rfl (.one rfl) rfl (.skip (.skip (.skip (.skip (.here (.nil _)))))) (.cons rfl rfl (.one rfl) rfl (.skip (.skip (.skip (.skip (.skip (.here (.nil _))))))) (.nil _)))))))) rfl ?_; refine TL.run1 (pure_build Ty.pl40 Ty.zero40 (.cons rfl rfl (.one rfl) rfl (.here (.nil _)) (.cons rfl rfl (.one rfl) rfl (.skip (.here (.nil _))) (.cons rfl rfl (.one rfl) rfl (.skip (.skip (.here (.nil _)))) (.cons rfl rfl (.one rfl) rfl (.skip (.skip (.skip (.here (.nil _))))) (.cons rfl rfl (.one rfl) rfl (.skip (.skip (.skip (.skip (.here (.nil _)))))) (.cons rfl rfl (.one rfl) rfl (.skip (.skip (.skip (.skip (.skip (.here (.nil _))))))) (.nil _)))))))) rfl ?_; refine TL.run1 (pure_build Ty.pl40 Ty.zero40 (.cons rfl rfl (.one rfl) rfl (.here (.nil _)) (.cons rfl rfl (.one rfl) rfl (.skip (.here (.nil _))) (.cons rfl rfl (.one rfl) rfl (.skip (.skip (.here (.nil _)))) (.cons rfl rfl (.one rfl) rfl (.skip (.skip (.skip (.here (.nil _))))) (.cons rfl rfl (.one rfl) rfl (.skip (.skip (.skip (.skip (.here (.nil _)))))) (.cons rfl rfl (.one rfl) rfl (.skip (.skip (.skip (.skip (.skip (.here (.nil _))))))) (.nil _)))))))) rfl ?_; refine TL.run1 (pure_build Ty.pl40 Ty.zero40 (.cons rfl rfl (.one rfl) rfl (.here (.nil _)) (.cons rfl rfl (.one rfl) rfl (.skip (.here (.nil _))) (.cons rfl rfl (.one rfl) rfl (.skip (.skip (.here (.nil _)))) (.cons rfl rfl (.one rfl) rfl (.skip (.skip (.skip (.here (.nil _))))) (.cons rfl rfl (.one rfl) rfl (.skip (.skip (.skip (.skip (.here (.nil _)))))) (.cons rfl rfl (.one rfl) rfl (.skip (.skip (.skip (.skip (.skip (.here (.nil _))))))) (.nil _)))))))) rfl ?_; refine TL.run1 (pure_build Ty.pl40 Ty.zero40 (.cons rfl rfl (.one rfl) rfl (.here (.nil _)) (.cons rfl rfl (.one rfl) rfl (.skip (.here (.nil _))) (.cons rfl rfl (.one rfl) rfl (.skip (.skip (.here (.nil _)))) (.cons rfl rfl (.one rfl) rfl (.skip (.skip (.skip (.here (.nil _))))) (.cons rfl rfl (.one rfl) rfl (.skip (.skip (.skip (.skip (.here (.nil _)))))) (.cons rfl rfl (.one rfl) rfl (.skip (.skip (.skip (.skip (.skip (.here (.nil _))))))) (.nil _)))))))) rfl ?_
  refine TL.run1 (pure_build Ty.pl40 Ty.zero40 (.cons rfl rfl (.one rfl) rfl (.here (.nil _)) (.cons rfl rfl (.one rfl) rfl (.skip (.here (.nil _))) (.cons rfl rfl (.one rfl) rfl (.skip (.skip (.here (.nil _)))) (.cons rfl rfl (.one rfl) rfl (.skip (.skip (.skip (.here (.nil _))))) (.cons rfl rfl (.one rfl) rfl (.skip (.skip (.skip (.skip (.here (.nil _)))))) (.cons rfl rfl (.one rfl) rfl (.skip (.skip (.skip (.skip (.skip (.here (.nil _))))))) (.nil _)))))))) rfl ?_; refine TL.run1 (pure_build Ty.pl40 Ty.zero40 (.cons rfl rfl (.one rfl) rfl (.here (.nil _)) (.cons rfl rfl (.one rfl) rfl (.skip (.here (.nil _))) (.cons rfl rfl (.one rfl) rfl (.skip (.skip (.here (.nil _)))) (.cons rfl rfl (.one rfl) rfl (.skip (.skip (.skip (.here (.nil _))))) (.cons rfl rfl (.one rfl) rfl (.skip (.skip (.skip (.skip (.here (.nil _)))))) (.cons rfl rfl (.one rfl) rfl (.skip (.skip (.skip (.skip (.skip (.here (.nil _))))))) (.nil _)))))))) rfl ?_; refine TL.run1 (pure_build Ty.pl40 Ty.zero40 (.cons rfl rfl (.one rfl) rfl (.here (.nil _)) (.cons rfl rfl (.one rfl) rfl (.skip (.here (.nil _))) (.cons rfl rfl (.one rfl) rfl (.skip (.skip (.here (.nil _)))) (.cons rfl rfl (.one rfl) rfl (.skip (.skip (.skip (.here (.nil _))))) (.cons rfl rfl (.one rfl) rfl (.skip (.skip (.skip (.skip (.here (.nil _)))))) (.cons rfl rfl (.one rfl) rfl (.skip (.skip (.skip (.skip (.skip (.here (.nil _))))))) (.nil _)))))))) rfl ?_; refine TL.run1 (pure_build Ty.pl40 Ty.zero40 (.cons rfl rfl (.one rfl) rfl (.here (.nil _)) (.cons rfl rfl (.one rfl) rfl (.skip (.here (.nil _))) (.cons rfl rfl (.one rfl) rfl (.skip (.skip (.here (.nil _)))) (.cons rfl rfl (.one rfl) rfl (.skip (.skip (.skip (.here (.nil _))))) (.cons rfl rfl (.one rfl) rfl (.skip (.skip (.skip (.skip (.here (.nil _)))))) (.cons rfl rfl (.one rfl) rfl (.skip (.skip (.skip (.skip (.skip (.here (.nil _))))))) (.nil _)))))))) rfl ?_; refine TL.run1 (pure_build Ty.pl40 Ty.zero40 (.cons rfl rfl (.one rfl) rfl (.here (.nil _)) (.cons rfl rfl (.one rfl) rfl (.skip (.here (.nil _))) (.cons rfl rfl (.one rfl) rfl (.skip (.skip (.here (.nil _)))) (.cons rfl rfl (.one rfl) rfl (.skip (.skip (.skip (.here (.nil _))))) (.cons rfl rfl (.one rfl) rfl (.skip (.skip (.skip (.skip (.here (.nil _)))))) (.cons rfl rfl (.one rfl) rfl (.skip (.skip (.skip (.skip (.skip (.here (.nil _))))))) (.nil _)))))))) rfl ?_; refine TL.run1 (pure_build Ty.pl40 Ty.zero40 (.cons rfl rfl (.one rfl) rfl (.here (.nil _)) (.cons rfl rfl (.one rfl) rfl (.skip (.here (.nil _))) (.cons rfl rfl (.one rfl) rfl (.skip (.skip (.here (.nil _)))) (.cons rfl rfl (.one rfl) rfl (.skip (.skip (.skip (.here (.nil _))))) (.cons rfl rfl (.one rfl) rfl (.skip (.skip (.skip (.skip (.here (.nil _)))))) (.cons rfl rfl (.one rfl) rfl (.skip (.skip (.skip (.skip (.skip (.here (.nil _))))))) (.nil _)))))))) rfl ?_; refine TL.run1 (pure_build Ty.pl40 Ty.zero40 (.cons rfl rfl (.one rfl) rfl (.here (.nil _)) (.cons rfl rfl (.one rfl) rfl (.skip (.here (.nil _))) (.cons rfl rfl (.one rfl) rfl (.skip (.skip (.here (.nil _)))) (.cons rfl rfl (.one rfl) rfl (.skip (.skip (.skip (.here (.nil _))))) (.cons rfl rfl (.one rfl) rfl (.skip (.skip (.skip (.skip (.here (.nil _)))))) (.cons rfl rfl (.one rfl) rfl (.skip (.skip (.skip (.skip (.skip (.here (.nil _))))))) (.nil _)))))))) rfl ?_; refine TL.run1 (pure_build Ty.pl40 Ty.zero40 (.cons rfl rfl (.one rfl) rfl (.here (.nil _)) (.cons rfl rfl (.one rfl) rfl (.skip (.here (.nil _))) (.cons rfl rfl (.one rfl) rfl (.skip (.skip (.here (.nil _)))) (.cons rfl rfl (.one rfl) rfl (.skip (.skip (.skip (.here (.nil _))))) (.cons rfl rfl (.one rfl) rfl (.skip (.skip (.skip (.skip (.here (.nil _)))))) (.cons rfl rfl (.one rfl) rfl (.skip (.skip (.skip (.skip (.skip (.here (.nil _))))))) (.nil _)))))))) rfl ?_; refine TL.run1 (pure_build Ty.pl40 Ty.zero40 (.cons rfl rfl (.one rfl) rfl (.here (.nil _)) (.cons rfl rfl (.one rfl) rfl (.skip (.here (.nil _))) (.cons rfl rfl (.one rfl) rfl (.skip (.skip (.here (.nil _)))) (.cons rfl rfl (.one rfl) rfl (.skip (.skip (.skip (.here (.nil _))))) (.cons rfl rfl (.one rfl) rfl (.skip (.skip (.skip (.skip (.here (.nil _)))))) (.cons rfl rfl (.one rfl) rfl (.skip (.skip (.skip (.skip (.skip (.here (.nil _))))))) (.nil _)))))))) rfl ?_
  refine TL.run1 (pure_buildSlice (xs := [.tmp 1, .tmp 2, .tmp 3, .tmp 4, .tmp 5, .tmp 6, .tmp 7, .tmp 8, .tmp 9, .tmp 10, .tmp 11, .tmp 12, .tmp 13, .tmp 14, .tmp 15, .tmp 16, .tmp 17, .tmp 18, .tmp 19, .tmp 20, .tmp 21, .tmp 22, .tmp 23, .tmp 24, .tmp 25, .tmp 26, .tmp 27, .tmp 28, .tmp 29, .tmp 30, .tmp 31, .tmp 32, .tmp 33, .tmp 34, .tmp 35, .tmp 36, .tmp 37, .tmp 38, .tmp 39, .tmp 40, .tmp 41, .tmp 42, .tmp 43, .tmp 44, .tmp 45]) Ty.app68 (by decide) rfl rfl (.cons rfl (.agg _) rfl (.cons rfl (.agg _) rfl (.cons rfl (.agg _) rfl (.cons rfl (.agg _) rfl (.cons rfl (.agg _) rfl (.cons rfl (.agg _) rfl (.cons rfl (.agg _) rfl (.cons rfl (.agg _) rfl (.cons rfl (.agg _) rfl (.cons rfl (.agg _) rfl (.cons rfl (.agg _) rfl (.cons rfl (.agg _) rfl (.cons rfl (.agg _) rfl (.cons rfl (.agg _) rfl (.cons rfl (.agg _) rfl (.cons rfl (.agg _) rfl (.cons rfl (.agg _) rfl (.cons rfl (.agg _) rfl (.cons rfl (.agg _) rfl (.cons rfl (.agg _) rfl (.cons rfl (.agg _) rfl (.cons rfl (.agg _) rfl (.cons rfl (.agg _) rfl (.cons rfl (.agg _) rfl (.cons rfl (.agg _) rfl (.cons rfl (.agg _) rfl (.cons rfl (.agg _) rfl (.cons rfl (.agg _) rfl (.cons rfl (.agg _) rfl (.cons rfl (.agg _) rfl (.cons rfl (.agg _) rfl (.cons rfl (.agg _) rfl (.cons rfl (.agg _) rfl (.cons rfl (.agg _) rfl (.cons rfl (.agg _) rfl (.cons rfl (.agg _) rfl (.cons rfl (.agg _) rfl (.cons rfl (.agg _) rfl (.cons rfl (.agg _) rfl (.cons rfl (.agg _) rfl (.cons rfl (.agg _) rfl (.cons rfl (.agg _) rfl (.cons rfl (.agg _) rfl (.cons rfl (.agg _) rfl (.cons rfl (.agg _) rfl .nil)))))))))))))))))))))))))))))))))))))))))))))) rfl ?_; refine TL.run1 (pure_assign rfl) rfl ?_; refine TL.nil' ?_; refine TC.ret ?_
  exact ret_sl rfl rfl
set_option maxRecDepth 100000 in
theorem Of_spec (key : Int) : Fun Try.prog 21 [.v (.int .i64 key)] (.tup [.agg (encK1 (findK key)), .v (.bool (inI (keysK tableK) key))]) := by
  refine Fun.enter (n := 25) (rs := [.cell 2 40, .tmp 3]) Try.func21 rfl Try.ntmps21 Try.results21 rfl (fun w F => ?_)
  refine TC.seq ?_; refine TC.region ?_
  refine TL.alloc Ty.zero40 rfl (fun g2 => ?_)
  refine TL.run1 (pure_assign rfl) rfl ?_; refine TL.nil' ?_; refine TC.seq ?_; refine TC.region ?_; refine TL.run1 (pure_call (Table_spec) .nil Try.call43) rfl ?_; refine TL.run1 (pure_assign rfl) rfl ?_; refine TL.nil' ?_; refine TC.seq ?_; refine TC.seq ?_; refine TC.region ?_; refine TL.run1 (pure_assign rfl) rfl ?_; refine TL.nil' ?_; refine TC.block ?_; refine TC.loopX (X := Int) (fun i => [(0, .v (.int .i64 key)), (2, .v (.pointer (some ⟨g2, 0, none⟩))), (3, .v (.bool false)), (4, .sl 6 (encK tableK)), (5, .v (.int .i64 i))]) (fun i => [.box g2 40 [.v (.int .i64 0), .v (.int .i64 0), .v (.int .i64 0), .v (.int .i64 0), .v (.int .i64 0), .v (.string ⟨#[]⟩)]]) (fun i => (0 ≤ i) ∧ (i ≤ 45) ∧ (∀ j : Int, 0 ≤ j → j < i → (eAt tableK j).num ≠ key)) (fun i => (45 - i).toNat) (0) ⟨by skip; repeat (first | exact Agree.nil | refine Agree.cons rfl ?_), by skip; repeat (first | exact List.nil_sublist _ | exact List.Sublist.refl _ | apply List.Sublist.cons_cons | apply List.Sublist.cons)⟩ ?_ ?_
  · skip
    exact ⟨by omega, by omega, fun j _ _ => by omega⟩
  intro i
  rintro ⟨h0, h1, h2⟩
  show TC _ _ _ (Env.of [(0, .v (.int .i64 key)), (2, .v (.pointer (some ⟨g2, 0, none⟩))), (3, .v (.bool false)), (4, .sl 6 (encK tableK)), (5, .v (.int .i64 i))]) [.box g2 40 [.v (.int .i64 0), .v (.int .i64 0), .v (.int .i64 0), .v (.int .i64 0), .v (.int .i64 0), .v (.string ⟨#[]⟩)]]
  have htl := encK_len tableK
  have htl2 := tableK_len
  refine TC.seq ?_; refine TC.seq ?_; refine TC.region ?_; refine TL.run1 (pure_move rfl) rfl ?_; refine TL.run1 (pure_move rfl) rfl ?_
  first | refine TL.run1 (pure_len Ty.sl68 rfl) rfl ?_ | refine TL.run1 (pure_len_row Ty.sl68 rfl (by repeat (first | exact List.Mem.head _ | apply List.Mem.tail))) rfl ?_ | refine TL.run1 (pure_len_nil Ty.sl68 rfl) rfl ?_
  refine TL.run1 (pure_lss rfl rfl) rfl ?_; refine TL.nil' ?_
  first | refine TC.condD rfl (fun hc10 => ?_) (fun hc10 => ?_) | refine TC.condN rfl (fun hc10 => ?_) (fun hc10 => ?_) | refine TC.cond rfl (fun hc10 => ?_) (fun hc10 => ?_)
  · try dsimp only at hc10
    refine TC.skip' ?_; refine TC.seq ?_; refine TC.block ?_; refine TC.seq ?_
    have hrow := encK_get tableK i (by omega) (by omega)
    refine TC.region ?_; refine TL.run1 (pure_move rfl) rfl ?_; refine TL.run1 (pure_move rfl) rfl ?_; refine TL.run1 (pure_indexAddr Ty.sl68 rfl rfl (by omega) (by assumption) (List.cons_ne_nil _ _)) rfl ?_
    first | refine TL.run1 (pure_fieldAddr Ty.f40_0 rfl (.zero _) (List.cons_ne_nil _ _)) rfl ?_ | refine TL.run1 (pure_fieldAddr_own Ty.f40_0 rfl) rfl ?_
    first | refine TL.run1 (pure_load1 Ty.one3 rfl) rfl ?_ | refine TL.run1 (pure_load1_own Ty.one3 rfl (by repeat (first | exact List.Mem.head _ | apply List.Mem.tail)) (by repeat (first | exact DropR.zero _ | apply DropR.succ))) rfl ?_
    refine TL.run1 (pure_move rfl) rfl ?_; refine TL.run1 (pure_eql rfl rfl) rfl ?_; refine TL.nil' ?_
    first | refine TC.condD rfl (fun hc19 => ?_) (fun hc19 => ?_) | refine TC.condN rfl (fun hc19 => ?_) (fun hc19 => ?_) | refine TC.cond rfl (fun hc19 => ?_) (fun hc19 => ?_)
    · try dsimp only at hc19
      have hfk := findK_at key i h0 (by omega) hc19
      refine TC.seq ?_; refine TC.region ?_; refine TL.run1 (pure_move rfl) rfl ?_; refine TL.run1 (pure_move rfl) rfl ?_; refine TL.run1 (pure_indexAddr Ty.sl68 rfl rfl (by omega) (by assumption) (List.cons_ne_nil _ _)) rfl ?_
      first | refine TL.run1 (pure_load Ty.agg40 rfl (.succ (.succ (.succ (.succ (.succ (.succ (.zero _)))))))) rfl ?_ | refine TL.run1 (pure_load_own Ty.agg40 rfl (by repeat (first | exact List.Mem.head _ | apply List.Mem.tail)) (by repeat (first | exact DropR.zero _ | apply DropR.succ)) (.succ (.succ (.succ (.succ (.succ (.succ (.zero _)))))))) rfl ?_
      refine TL.store rfl rfl (.agg _) Try.sizeOf40 rfl (by repeat (first | exact UpdR.here _ | apply UpdR.there)) (by repeat (first | exact PutR.nil _ | apply PutR.here | apply PutR.skip)) ?_; refine TL.run1 (pure_assign rfl) rfl ?_; refine TL.nil' ?_; refine TC.ret ?_; refine block_ret ?_; refine then_ret ?_; refine loop_ret ?_; refine block_ret ?_; refine then_ret ?_
      exact ret_cell_tmp (.inl rfl) Ty.agg40 rfl (by repeat (first | exact List.Mem.head _ | apply List.Mem.tail)) rfl rfl (by rw [hfk.1, hfk.2]; rfl)
    · try dsimp only at hc19
      refine TC.skip ?_; refine block_normal ?_; refine then_normal ?_; refine TC.region ?_; refine TL.run1 (pure_move rfl) rfl ?_; refine TL.run1 (pure_add rfl rfl (mkI64 (by omega) (by omega))) rfl ?_; refine TL.run1 (pure_assign rfl) rfl ?_; refine TL.nil ?_
      refine loop_next (i + 1) ⟨by repeat (first | exact Agree.nil | refine Agree.cons rfl ?_), by repeat (first | exact List.nil_sublist _ | exact List.Sublist.refl _ | apply List.Sublist.cons_cons | apply List.Sublist.cons)⟩ ⟨by omega, by omega, fun j a b => ?_⟩ (by omega)
      rcases Int.lt_or_eq_of_le (show j ≤ i by omega) with h | h
      · exact h2 j a h
      · rw [h]; exact hc19
  · try dsimp only at hc10
    refine TC.exit ?_; refine then_exit ?_; refine loop_exit ?_; refine block_here ?_; refine then_normal ?_; refine TC.seq ?_
    have hno := findK_none key fun j a b => h2 j a (by omega)
    refine TC.region ?_; refine TL.run1 (pure_build Ty.pl40 Ty.zero40 (.nil _)) rfl ?_; refine TL.store rfl rfl (.agg _) Try.sizeOf40 rfl (by repeat (first | exact UpdR.here _ | apply UpdR.there)) (by repeat (first | exact PutR.nil _ | apply PutR.here | apply PutR.skip)) ?_; refine TL.run1 (pure_assign rfl) rfl ?_; refine TL.nil' ?_; refine TC.ret ?_
    exact ret_cell_tmp (.inl rfl) Ty.agg40 rfl (by repeat (first | exact List.Mem.head _ | apply List.Mem.tail)) rfl rfl (by unfold findK; rw [hno]; rfl)
set_option maxRecDepth 100000 in
theorem groups_spec (e : Int) : Fun Try.prog 86 [.v (.int .i64 e)] (.sl 1 (encI (groupsOf e))) := by
  refine Fun.enter (n := 25) (rs := [.tmp 2]) Try.func86 rfl Try.ntmps86 Try.results86 rfl (fun w F => ?_)
  refine TC.seq ?_; refine TC.region ?_; refine TL.run1 (pure_assign rfl) rfl ?_; refine TL.nil' ?_; refine TC.seq ?_; refine TC.seq ?_; refine TC.region ?_; refine TL.run1 (pure_move rfl) rfl ?_; refine TL.nil' ?_; refine TC.block ?_; refine TC.seq ?_; refine TC.seq ?_; refine TC.region ?_; refine TL.run1 (pure_eql rfl rfl) rfl ?_; refine TL.run1 (pure_assign rfl) rfl ?_; refine TL.nil' ?_
  first | refine TC.condD rfl (fun hc4 => ?_) (fun hc4 => ?_) | refine TC.condN rfl (fun hc4 => ?_) (fun hc4 => ?_) | refine TC.cond rfl (fun hc4 => ?_) (fun hc4 => ?_)
  · try dsimp only at hc4
    refine TC.skip' ?_
    first | refine TC.condD rfl (fun hc4 => ?_) (fun hc4 => ?_) | refine TC.condN rfl (fun hc4 => ?_) (fun hc4 => ?_) | refine TC.cond rfl (fun hc4 => ?_) (fun hc4 => ?_)
    · try dsimp only at hc4
      refine TC.seq ?_; refine TC.region ?_; refine TL.run1 (pure_buildSlice (xs := [.const (.int .i64 1)]) Ty.app50 (by decide) rfl rfl (.cons rfl (.one rfl) rfl .nil)) rfl ?_; refine TL.run1 (pure_assign rfl) rfl ?_; refine TL.nil' ?_
      try refine TC.le 2 rfl (.nil 1) ?_
      refine TC.ret ?_; refine block_ret ?_; refine then_ret ?_
      exact ret_sl rfl (by simp_all [groupsOf, encI])
    · try dsimp only at hc4
      refine TC.seq ?_; refine TC.region ?_; refine TL.run1 (pure_eql rfl rfl) rfl ?_; refine TL.run1 (pure_assign rfl) rfl ?_; refine TL.nil' ?_
      first | refine TC.condD rfl (fun hc10 => ?_) (fun hc10 => ?_) | refine TC.condN rfl (fun hc10 => ?_) (fun hc10 => ?_) | refine TC.cond rfl (fun hc10 => ?_) (fun hc10 => ?_)
      · try dsimp only at hc10
        refine TC.seq ?_; refine TC.region ?_; refine TL.run1 (pure_buildSlice (xs := [.const (.int .i64 1), .const (.int .i64 2)]) Ty.app50 (by decide) rfl rfl (.cons rfl (.one rfl) rfl (.cons rfl (.one rfl) rfl .nil))) rfl ?_; refine TL.run1 (pure_assign rfl) rfl ?_; refine TL.nil' ?_
        try refine TC.le 2 rfl (.nil 1) ?_
        refine TC.ret ?_; refine block_ret ?_; refine then_ret ?_
        exact ret_sl rfl (by simp_all [groupsOf, encI])
      · try dsimp only at hc10
        refine TC.seq ?_; refine TC.region ?_; refine TL.run1 (pure_eql rfl rfl) rfl ?_; refine TL.run1 (pure_assign rfl) rfl ?_; refine TL.nil' ?_
        first | refine TC.condD rfl (fun hc13 => ?_) (fun hc13 => ?_) | refine TC.condN rfl (fun hc13 => ?_) (fun hc13 => ?_) | refine TC.cond rfl (fun hc13 => ?_) (fun hc13 => ?_)
        · try dsimp only at hc13
          refine TC.seq ?_; refine TC.region ?_; refine TL.run1 (pure_buildSlice (xs := [.const (.int .i64 3)]) Ty.app50 (by decide) rfl rfl (.cons rfl (.one rfl) rfl .nil)) rfl ?_; refine TL.run1 (pure_assign rfl) rfl ?_; refine TL.nil' ?_
          try refine TC.le 2 rfl (.nil 1) ?_
          refine TC.ret ?_; refine block_ret ?_; refine then_ret ?_
          exact ret_sl rfl (by simp_all [groupsOf, encI])
        · try dsimp only at hc13
          refine TC.seq ?_; refine TC.region ?_; refine TL.run1 (pure_eql rfl rfl) rfl ?_; refine TL.run1 (pure_assign rfl) rfl ?_; refine TL.nil' ?_
          first | refine TC.condD rfl (fun hc16 => ?_) (fun hc16 => ?_) | refine TC.condN rfl (fun hc16 => ?_) (fun hc16 => ?_) | refine TC.cond rfl (fun hc16 => ?_) (fun hc16 => ?_)
          · try dsimp only at hc16
            refine TC.seq ?_; refine TC.region ?_; refine TL.run1 (pure_buildSlice (xs := [.const (.int .i64 6)]) Ty.app50 (by decide) rfl rfl (.cons rfl (.one rfl) rfl .nil)) rfl ?_; refine TL.run1 (pure_assign rfl) rfl ?_; refine TL.nil' ?_
            try refine TC.le 2 rfl (.nil 1) ?_
            refine TC.ret ?_; refine block_ret ?_; refine then_ret ?_
            exact ret_sl rfl (by simp_all [groupsOf, encI])
          · try dsimp only at hc16
            refine TC.seq ?_; refine TC.region ?_; refine TL.run1 (pure_eql rfl rfl) rfl ?_; refine TL.run1 (pure_assign rfl) rfl ?_; refine TL.nil' ?_
            first | refine TC.condD rfl (fun hc19 => ?_) (fun hc19 => ?_) | refine TC.condN rfl (fun hc19 => ?_) (fun hc19 => ?_) | refine TC.cond rfl (fun hc19 => ?_) (fun hc19 => ?_)
            · try dsimp only at hc19
              refine TC.seq ?_; refine TC.region ?_; refine TL.run1 (pure_buildSlice (xs := [.const (.int .i64 4)]) Ty.app50 (by decide) rfl rfl (.cons rfl (.one rfl) rfl .nil)) rfl ?_; refine TL.run1 (pure_assign rfl) rfl ?_; refine TL.nil' ?_
              try refine TC.le 2 rfl (.nil 1) ?_
              refine TC.ret ?_; refine block_ret ?_; refine then_ret ?_
              exact ret_sl rfl (by simp_all [groupsOf, encI])
            · try dsimp only at hc19
              refine TC.seq ?_; refine TC.region ?_; refine TL.run1 (pure_eql rfl rfl) rfl ?_; refine TL.run1 (pure_assign rfl) rfl ?_; refine TL.nil' ?_
              first | refine TC.condD rfl (fun hc22 => ?_) (fun hc22 => ?_) | refine TC.condN rfl (fun hc22 => ?_) (fun hc22 => ?_) | refine TC.cond rfl (fun hc22 => ?_) (fun hc22 => ?_)
              · try dsimp only at hc22
                refine TC.seq ?_; refine TC.region ?_; refine TL.run1 (pure_buildSlice (xs := [.const (.int .i64 5)]) Ty.app50 (by decide) rfl rfl (.cons rfl (.one rfl) rfl .nil)) rfl ?_; refine TL.run1 (pure_assign rfl) rfl ?_; refine TL.nil' ?_
                try refine TC.le 2 rfl (.nil 1) ?_
                refine TC.ret ?_; refine block_ret ?_; refine then_ret ?_
                exact ret_sl rfl (by simp_all [groupsOf, encI])
              · try dsimp only at hc22
                refine TC.skip ?_; refine block_normal ?_; refine then_normal ?_; refine TC.seq ?_; refine TC.region ?_; refine TL.run1 (pure_assign rfl) rfl ?_; refine TL.nil' ?_
                try refine TC.le 2 rfl (.nil 1) ?_
                refine TC.ret ?_
                exact ret_sl rfl (by simp_all [groupsOf, encI])
  · try dsimp only at hc4
    refine TC.seq ?_; refine TC.region ?_; refine TL.run1 (pure_eql rfl rfl) rfl ?_; refine TL.run1 (pure_assign rfl) rfl ?_; refine TL.nil' ?_
    first | refine TC.condD rfl (fun hc4 => ?_) (fun hc4 => ?_) | refine TC.condN rfl (fun hc4 => ?_) (fun hc4 => ?_) | refine TC.cond rfl (fun hc4 => ?_) (fun hc4 => ?_)
    · try dsimp only at hc4
      refine TC.skip' ?_
      first | refine TC.condD rfl (fun hc4 => ?_) (fun hc4 => ?_) | refine TC.condN rfl (fun hc4 => ?_) (fun hc4 => ?_) | refine TC.cond rfl (fun hc4 => ?_) (fun hc4 => ?_)
      · try dsimp only at hc4
        refine TC.seq ?_; refine TC.region ?_; refine TL.run1 (pure_buildSlice (xs := [.const (.int .i64 1)]) Ty.app50 (by decide) rfl rfl (.cons rfl (.one rfl) rfl .nil)) rfl ?_; refine TL.run1 (pure_assign rfl) rfl ?_; refine TL.nil' ?_
        try refine TC.le 2 rfl (.nil 1) ?_
        refine TC.ret ?_; refine block_ret ?_; refine then_ret ?_
        exact ret_sl rfl (by simp_all [groupsOf, encI])
      · try dsimp only at hc4
        refine TC.seq ?_; refine TC.region ?_; refine TL.run1 (pure_eql rfl rfl) rfl ?_; refine TL.run1 (pure_assign rfl) rfl ?_; refine TL.nil' ?_
        first | refine TC.condD rfl (fun hc10 => ?_) (fun hc10 => ?_) | refine TC.condN rfl (fun hc10 => ?_) (fun hc10 => ?_) | refine TC.cond rfl (fun hc10 => ?_) (fun hc10 => ?_)
        · try dsimp only at hc10
          refine TC.seq ?_; refine TC.region ?_; refine TL.run1 (pure_buildSlice (xs := [.const (.int .i64 1), .const (.int .i64 2)]) Ty.app50 (by decide) rfl rfl (.cons rfl (.one rfl) rfl (.cons rfl (.one rfl) rfl .nil))) rfl ?_; refine TL.run1 (pure_assign rfl) rfl ?_; refine TL.nil' ?_
          try refine TC.le 2 rfl (.nil 1) ?_
          refine TC.ret ?_; refine block_ret ?_; refine then_ret ?_
          exact ret_sl rfl (by simp_all [groupsOf, encI])
        · try dsimp only at hc10
          refine TC.seq ?_; refine TC.region ?_; refine TL.run1 (pure_eql rfl rfl) rfl ?_; refine TL.run1 (pure_assign rfl) rfl ?_; refine TL.nil' ?_
          first | refine TC.condD rfl (fun hc13 => ?_) (fun hc13 => ?_) | refine TC.condN rfl (fun hc13 => ?_) (fun hc13 => ?_) | refine TC.cond rfl (fun hc13 => ?_) (fun hc13 => ?_)
          · try dsimp only at hc13
            refine TC.seq ?_; refine TC.region ?_; refine TL.run1 (pure_buildSlice (xs := [.const (.int .i64 3)]) Ty.app50 (by decide) rfl rfl (.cons rfl (.one rfl) rfl .nil)) rfl ?_; refine TL.run1 (pure_assign rfl) rfl ?_; refine TL.nil' ?_
            try refine TC.le 2 rfl (.nil 1) ?_
            refine TC.ret ?_; refine block_ret ?_; refine then_ret ?_
            exact ret_sl rfl (by simp_all [groupsOf, encI])
          · try dsimp only at hc13
            refine TC.seq ?_; refine TC.region ?_; refine TL.run1 (pure_eql rfl rfl) rfl ?_; refine TL.run1 (pure_assign rfl) rfl ?_; refine TL.nil' ?_
            first | refine TC.condD rfl (fun hc16 => ?_) (fun hc16 => ?_) | refine TC.condN rfl (fun hc16 => ?_) (fun hc16 => ?_) | refine TC.cond rfl (fun hc16 => ?_) (fun hc16 => ?_)
            · try dsimp only at hc16
              refine TC.seq ?_; refine TC.region ?_; refine TL.run1 (pure_buildSlice (xs := [.const (.int .i64 6)]) Ty.app50 (by decide) rfl rfl (.cons rfl (.one rfl) rfl .nil)) rfl ?_; refine TL.run1 (pure_assign rfl) rfl ?_; refine TL.nil' ?_
              try refine TC.le 2 rfl (.nil 1) ?_
              refine TC.ret ?_; refine block_ret ?_; refine then_ret ?_
              exact ret_sl rfl (by simp_all [groupsOf, encI])
            · try dsimp only at hc16
              refine TC.seq ?_; refine TC.region ?_; refine TL.run1 (pure_eql rfl rfl) rfl ?_; refine TL.run1 (pure_assign rfl) rfl ?_; refine TL.nil' ?_
              first | refine TC.condD rfl (fun hc19 => ?_) (fun hc19 => ?_) | refine TC.condN rfl (fun hc19 => ?_) (fun hc19 => ?_) | refine TC.cond rfl (fun hc19 => ?_) (fun hc19 => ?_)
              · try dsimp only at hc19
                refine TC.seq ?_; refine TC.region ?_; refine TL.run1 (pure_buildSlice (xs := [.const (.int .i64 4)]) Ty.app50 (by decide) rfl rfl (.cons rfl (.one rfl) rfl .nil)) rfl ?_; refine TL.run1 (pure_assign rfl) rfl ?_; refine TL.nil' ?_
                try refine TC.le 2 rfl (.nil 1) ?_
                refine TC.ret ?_; refine block_ret ?_; refine then_ret ?_
                exact ret_sl rfl (by simp_all [groupsOf, encI])
              · try dsimp only at hc19
                refine TC.seq ?_; refine TC.region ?_; refine TL.run1 (pure_eql rfl rfl) rfl ?_; refine TL.run1 (pure_assign rfl) rfl ?_; refine TL.nil' ?_
                first | refine TC.condD rfl (fun hc22 => ?_) (fun hc22 => ?_) | refine TC.condN rfl (fun hc22 => ?_) (fun hc22 => ?_) | refine TC.cond rfl (fun hc22 => ?_) (fun hc22 => ?_)
                · try dsimp only at hc22
                  refine TC.seq ?_; refine TC.region ?_; refine TL.run1 (pure_buildSlice (xs := [.const (.int .i64 5)]) Ty.app50 (by decide) rfl rfl (.cons rfl (.one rfl) rfl .nil)) rfl ?_; refine TL.run1 (pure_assign rfl) rfl ?_; refine TL.nil' ?_
                  try refine TC.le 2 rfl (.nil 1) ?_
                  refine TC.ret ?_; refine block_ret ?_; refine then_ret ?_
                  exact ret_sl rfl (by simp_all [groupsOf, encI])
                · try dsimp only at hc22
                  refine TC.skip ?_; refine block_normal ?_; refine then_normal ?_; refine TC.seq ?_; refine TC.region ?_; refine TL.run1 (pure_assign rfl) rfl ?_; refine TL.nil' ?_
                  try refine TC.le 2 rfl (.nil 1) ?_
                  refine TC.ret ?_
                  exact ret_sl rfl (by simp_all [groupsOf, encI])
    · try dsimp only at hc4
      refine TC.seq ?_; refine TC.region ?_; refine TL.run1 (pure_eql rfl rfl) rfl ?_; refine TL.run1 (pure_assign rfl) rfl ?_; refine TL.nil' ?_
      first | refine TC.condD rfl (fun hc4 => ?_) (fun hc4 => ?_) | refine TC.condN rfl (fun hc4 => ?_) (fun hc4 => ?_) | refine TC.cond rfl (fun hc4 => ?_) (fun hc4 => ?_)
      · try dsimp only at hc4
        refine TC.skip' ?_
        first | refine TC.condD rfl (fun hc4 => ?_) (fun hc4 => ?_) | refine TC.condN rfl (fun hc4 => ?_) (fun hc4 => ?_) | refine TC.cond rfl (fun hc4 => ?_) (fun hc4 => ?_)
        · try dsimp only at hc4
          refine TC.seq ?_; refine TC.region ?_; refine TL.run1 (pure_buildSlice (xs := [.const (.int .i64 1)]) Ty.app50 (by decide) rfl rfl (.cons rfl (.one rfl) rfl .nil)) rfl ?_; refine TL.run1 (pure_assign rfl) rfl ?_; refine TL.nil' ?_
          try refine TC.le 2 rfl (.nil 1) ?_
          refine TC.ret ?_; refine block_ret ?_; refine then_ret ?_
          exact ret_sl rfl (by simp_all [groupsOf, encI])
        · try dsimp only at hc4
          refine TC.seq ?_; refine TC.region ?_; refine TL.run1 (pure_eql rfl rfl) rfl ?_; refine TL.run1 (pure_assign rfl) rfl ?_; refine TL.nil' ?_
          first | refine TC.condD rfl (fun hc10 => ?_) (fun hc10 => ?_) | refine TC.condN rfl (fun hc10 => ?_) (fun hc10 => ?_) | refine TC.cond rfl (fun hc10 => ?_) (fun hc10 => ?_)
          · try dsimp only at hc10
            refine TC.seq ?_; refine TC.region ?_; refine TL.run1 (pure_buildSlice (xs := [.const (.int .i64 1), .const (.int .i64 2)]) Ty.app50 (by decide) rfl rfl (.cons rfl (.one rfl) rfl (.cons rfl (.one rfl) rfl .nil))) rfl ?_; refine TL.run1 (pure_assign rfl) rfl ?_; refine TL.nil' ?_
            try refine TC.le 2 rfl (.nil 1) ?_
            refine TC.ret ?_; refine block_ret ?_; refine then_ret ?_
            exact ret_sl rfl (by simp_all [groupsOf, encI])
          · try dsimp only at hc10
            refine TC.seq ?_; refine TC.region ?_; refine TL.run1 (pure_eql rfl rfl) rfl ?_; refine TL.run1 (pure_assign rfl) rfl ?_; refine TL.nil' ?_
            first | refine TC.condD rfl (fun hc13 => ?_) (fun hc13 => ?_) | refine TC.condN rfl (fun hc13 => ?_) (fun hc13 => ?_) | refine TC.cond rfl (fun hc13 => ?_) (fun hc13 => ?_)
            · try dsimp only at hc13
              refine TC.seq ?_; refine TC.region ?_; refine TL.run1 (pure_buildSlice (xs := [.const (.int .i64 3)]) Ty.app50 (by decide) rfl rfl (.cons rfl (.one rfl) rfl .nil)) rfl ?_; refine TL.run1 (pure_assign rfl) rfl ?_; refine TL.nil' ?_
              try refine TC.le 2 rfl (.nil 1) ?_
              refine TC.ret ?_; refine block_ret ?_; refine then_ret ?_
              exact ret_sl rfl (by simp_all [groupsOf, encI])
            · try dsimp only at hc13
              refine TC.seq ?_; refine TC.region ?_; refine TL.run1 (pure_eql rfl rfl) rfl ?_; refine TL.run1 (pure_assign rfl) rfl ?_; refine TL.nil' ?_
              first | refine TC.condD rfl (fun hc16 => ?_) (fun hc16 => ?_) | refine TC.condN rfl (fun hc16 => ?_) (fun hc16 => ?_) | refine TC.cond rfl (fun hc16 => ?_) (fun hc16 => ?_)
              · try dsimp only at hc16
                refine TC.seq ?_; refine TC.region ?_; refine TL.run1 (pure_buildSlice (xs := [.const (.int .i64 6)]) Ty.app50 (by decide) rfl rfl (.cons rfl (.one rfl) rfl .nil)) rfl ?_; refine TL.run1 (pure_assign rfl) rfl ?_; refine TL.nil' ?_
                try refine TC.le 2 rfl (.nil 1) ?_
                refine TC.ret ?_; refine block_ret ?_; refine then_ret ?_
                exact ret_sl rfl (by simp_all [groupsOf, encI])
              · try dsimp only at hc16
                refine TC.seq ?_; refine TC.region ?_; refine TL.run1 (pure_eql rfl rfl) rfl ?_; refine TL.run1 (pure_assign rfl) rfl ?_; refine TL.nil' ?_
                first | refine TC.condD rfl (fun hc19 => ?_) (fun hc19 => ?_) | refine TC.condN rfl (fun hc19 => ?_) (fun hc19 => ?_) | refine TC.cond rfl (fun hc19 => ?_) (fun hc19 => ?_)
                · try dsimp only at hc19
                  refine TC.seq ?_; refine TC.region ?_; refine TL.run1 (pure_buildSlice (xs := [.const (.int .i64 4)]) Ty.app50 (by decide) rfl rfl (.cons rfl (.one rfl) rfl .nil)) rfl ?_; refine TL.run1 (pure_assign rfl) rfl ?_; refine TL.nil' ?_
                  try refine TC.le 2 rfl (.nil 1) ?_
                  refine TC.ret ?_; refine block_ret ?_; refine then_ret ?_
                  exact ret_sl rfl (by simp_all [groupsOf, encI])
                · try dsimp only at hc19
                  refine TC.seq ?_; refine TC.region ?_; refine TL.run1 (pure_eql rfl rfl) rfl ?_; refine TL.run1 (pure_assign rfl) rfl ?_; refine TL.nil' ?_
                  first | refine TC.condD rfl (fun hc22 => ?_) (fun hc22 => ?_) | refine TC.condN rfl (fun hc22 => ?_) (fun hc22 => ?_) | refine TC.cond rfl (fun hc22 => ?_) (fun hc22 => ?_)
                  · try dsimp only at hc22
                    refine TC.seq ?_; refine TC.region ?_; refine TL.run1 (pure_buildSlice (xs := [.const (.int .i64 5)]) Ty.app50 (by decide) rfl rfl (.cons rfl (.one rfl) rfl .nil)) rfl ?_; refine TL.run1 (pure_assign rfl) rfl ?_; refine TL.nil' ?_
                    try refine TC.le 2 rfl (.nil 1) ?_
                    refine TC.ret ?_; refine block_ret ?_; refine then_ret ?_
                    exact ret_sl rfl (by simp_all [groupsOf, encI])
                  · try dsimp only at hc22
                    refine TC.skip ?_; refine block_normal ?_; refine then_normal ?_; refine TC.seq ?_; refine TC.region ?_; refine TL.run1 (pure_assign rfl) rfl ?_; refine TL.nil' ?_
                    try refine TC.le 2 rfl (.nil 1) ?_
                    refine TC.ret ?_
                    exact ret_sl rfl (by simp_all [groupsOf, encI])
      · try dsimp only at hc4
        refine TC.region ?_; refine TL.run1 (pure_eql rfl rfl) rfl ?_; refine TL.run1 (pure_assign rfl) rfl ?_; refine TL.nil' ?_
        first | refine TC.condD rfl (fun hc4 => ?_) (fun hc4 => ?_) | refine TC.condN rfl (fun hc4 => ?_) (fun hc4 => ?_) | refine TC.cond rfl (fun hc4 => ?_) (fun hc4 => ?_)
        · try dsimp only at hc4
          refine TC.seq ?_; refine TC.region ?_; refine TL.run1 (pure_buildSlice (xs := [.const (.int .i64 1)]) Ty.app50 (by decide) rfl rfl (.cons rfl (.one rfl) rfl .nil)) rfl ?_; refine TL.run1 (pure_assign rfl) rfl ?_; refine TL.nil' ?_
          try refine TC.le 2 rfl (.nil 1) ?_
          refine TC.ret ?_; refine block_ret ?_; refine then_ret ?_
          exact ret_sl rfl (by simp_all [groupsOf, encI])
        · try dsimp only at hc4
          refine TC.seq ?_; refine TC.region ?_; refine TL.run1 (pure_eql rfl rfl) rfl ?_; refine TL.run1 (pure_assign rfl) rfl ?_; refine TL.nil' ?_
          first | refine TC.condD rfl (fun hc10 => ?_) (fun hc10 => ?_) | refine TC.condN rfl (fun hc10 => ?_) (fun hc10 => ?_) | refine TC.cond rfl (fun hc10 => ?_) (fun hc10 => ?_)
          · try dsimp only at hc10
            refine TC.seq ?_; refine TC.region ?_; refine TL.run1 (pure_buildSlice (xs := [.const (.int .i64 1), .const (.int .i64 2)]) Ty.app50 (by decide) rfl rfl (.cons rfl (.one rfl) rfl (.cons rfl (.one rfl) rfl .nil))) rfl ?_; refine TL.run1 (pure_assign rfl) rfl ?_; refine TL.nil' ?_
            try refine TC.le 2 rfl (.nil 1) ?_
            refine TC.ret ?_; refine block_ret ?_; refine then_ret ?_
            exact ret_sl rfl (by simp_all [groupsOf, encI])
          · try dsimp only at hc10
            refine TC.seq ?_; refine TC.region ?_; refine TL.run1 (pure_eql rfl rfl) rfl ?_; refine TL.run1 (pure_assign rfl) rfl ?_; refine TL.nil' ?_
            first | refine TC.condD rfl (fun hc13 => ?_) (fun hc13 => ?_) | refine TC.condN rfl (fun hc13 => ?_) (fun hc13 => ?_) | refine TC.cond rfl (fun hc13 => ?_) (fun hc13 => ?_)
            · try dsimp only at hc13
              refine TC.seq ?_; refine TC.region ?_; refine TL.run1 (pure_buildSlice (xs := [.const (.int .i64 3)]) Ty.app50 (by decide) rfl rfl (.cons rfl (.one rfl) rfl .nil)) rfl ?_; refine TL.run1 (pure_assign rfl) rfl ?_; refine TL.nil' ?_
              try refine TC.le 2 rfl (.nil 1) ?_
              refine TC.ret ?_; refine block_ret ?_; refine then_ret ?_
              exact ret_sl rfl (by simp_all [groupsOf, encI])
            · try dsimp only at hc13
              refine TC.seq ?_; refine TC.region ?_; refine TL.run1 (pure_eql rfl rfl) rfl ?_; refine TL.run1 (pure_assign rfl) rfl ?_; refine TL.nil' ?_
              first | refine TC.condD rfl (fun hc16 => ?_) (fun hc16 => ?_) | refine TC.condN rfl (fun hc16 => ?_) (fun hc16 => ?_) | refine TC.cond rfl (fun hc16 => ?_) (fun hc16 => ?_)
              · try dsimp only at hc16
                refine TC.seq ?_; refine TC.region ?_; refine TL.run1 (pure_buildSlice (xs := [.const (.int .i64 6)]) Ty.app50 (by decide) rfl rfl (.cons rfl (.one rfl) rfl .nil)) rfl ?_; refine TL.run1 (pure_assign rfl) rfl ?_; refine TL.nil' ?_
                try refine TC.le 2 rfl (.nil 1) ?_
                refine TC.ret ?_; refine block_ret ?_; refine then_ret ?_
                exact ret_sl rfl (by simp_all [groupsOf, encI])
              · try dsimp only at hc16
                refine TC.seq ?_; refine TC.region ?_; refine TL.run1 (pure_eql rfl rfl) rfl ?_; refine TL.run1 (pure_assign rfl) rfl ?_; refine TL.nil' ?_
                first | refine TC.condD rfl (fun hc19 => ?_) (fun hc19 => ?_) | refine TC.condN rfl (fun hc19 => ?_) (fun hc19 => ?_) | refine TC.cond rfl (fun hc19 => ?_) (fun hc19 => ?_)
                · try dsimp only at hc19
                  refine TC.seq ?_; refine TC.region ?_; refine TL.run1 (pure_buildSlice (xs := [.const (.int .i64 4)]) Ty.app50 (by decide) rfl rfl (.cons rfl (.one rfl) rfl .nil)) rfl ?_; refine TL.run1 (pure_assign rfl) rfl ?_; refine TL.nil' ?_
                  try refine TC.le 2 rfl (.nil 1) ?_
                  refine TC.ret ?_; refine block_ret ?_; refine then_ret ?_
                  exact ret_sl rfl (by simp_all [groupsOf, encI])
                · try dsimp only at hc19
                  refine TC.seq ?_; refine TC.region ?_; refine TL.run1 (pure_eql rfl rfl) rfl ?_; refine TL.run1 (pure_assign rfl) rfl ?_; refine TL.nil' ?_
                  first | refine TC.condD rfl (fun hc22 => ?_) (fun hc22 => ?_) | refine TC.condN rfl (fun hc22 => ?_) (fun hc22 => ?_) | refine TC.cond rfl (fun hc22 => ?_) (fun hc22 => ?_)
                  · try dsimp only at hc22
                    refine TC.seq ?_; refine TC.region ?_; refine TL.run1 (pure_buildSlice (xs := [.const (.int .i64 5)]) Ty.app50 (by decide) rfl rfl (.cons rfl (.one rfl) rfl .nil)) rfl ?_; refine TL.run1 (pure_assign rfl) rfl ?_; refine TL.nil' ?_
                    try refine TC.le 2 rfl (.nil 1) ?_
                    refine TC.ret ?_; refine block_ret ?_; refine then_ret ?_
                    exact ret_sl rfl (by simp_all [groupsOf, encI])
                  · try dsimp only at hc22
                    refine TC.skip ?_; refine block_normal ?_; refine then_normal ?_; refine TC.seq ?_; refine TC.region ?_; refine TL.run1 (pure_assign rfl) rfl ?_; refine TL.nil' ?_
                    try refine TC.le 2 rfl (.nil 1) ?_
                    refine TC.ret ?_
                    exact ret_sl rfl (by simp_all [groupsOf, encI])
set_option maxRecDepth 100000 in
theorem index_spec (l : List Int) (v : Int) (hl : l.length ≤ 1000000) : Fun Try.prog 98 [.sl 1 (encI l), .v (.int .i64 v)] (.v (.int .i64 (idxN l v))) := by
  refine Fun.enter (n := 19) (rs := [.tmp 4]) Try.func98 rfl Try.ntmps98 Try.results98 rfl (fun w F => ?_)
  refine TC.seq ?_; refine TC.region ?_; refine TL.run1 (pure_assign rfl) rfl ?_; refine TL.nil' ?_; refine TC.seq ?_; refine TC.seq ?_; refine TC.region ?_; refine TL.run1 (pure_move rfl) rfl ?_
  first | refine TL.run1 (pure_len Ty.sl50 rfl) rfl ?_ | refine TL.run1 (pure_len_row Ty.sl50 rfl (by repeat (first | exact List.Mem.head _ | apply List.Mem.tail))) rfl ?_ | refine TL.run1 (pure_len_nil Ty.sl50 rfl) rfl ?_
  refine TL.run1 (pure_move rfl) rfl ?_; refine TL.nil' ?_; refine TC.block ?_; refine TC.loopX (X := Int) (fun i => [(0, .sl 1 (encI l)), (1, .v (.int .i64 v)), (7, .v (.int .i64 l.length)), (8, .v (.int .i64 i))]) (fun i => []) (fun i => (0 ≤ i) ∧ (i ≤ l.length) ∧ (∀ j : Int, 0 ≤ j → j < i → iAt l j ≠ v)) (fun i => (l.length - i).toNat) (0) ⟨by rw [encI_len]; repeat (first | exact Agree.nil | refine Agree.cons rfl ?_), by skip; repeat (first | exact List.nil_sublist _ | exact List.Sublist.refl _ | apply List.Sublist.cons_cons | apply List.Sublist.cons)⟩ ?_ ?_
  · skip
    exact ⟨by omega, by omega, fun j _ _ => by omega⟩
  intro i
  rintro ⟨h0, h1, h2⟩
  show TC _ _ _ (Env.of [(0, .sl 1 (encI l)), (1, .v (.int .i64 v)), (7, .v (.int .i64 l.length)), (8, .v (.int .i64 i))]) []
  have hk := encI_len l
  refine TC.seq ?_; refine TC.region ?_; refine TL.run1 (pure_lss rfl rfl) rfl ?_; refine TL.nil' ?_; refine TC.seq ?_
  first | refine TC.condD rfl (fun hc9 => ?_) (fun hc9 => ?_) | refine TC.condN rfl (fun hc9 => ?_) (fun hc9 => ?_) | refine TC.cond rfl (fun hc9 => ?_) (fun hc9 => ?_)
  · try dsimp only at hc9
    refine TC.skip' ?_; refine TC.seq ?_; refine TC.block ?_; refine TC.seq ?_; refine TC.region ?_; refine TL.run1 (pure_move rfl) rfl ?_; refine TL.run1 (pure_assign rfl) rfl ?_; refine TL.nil' ?_; refine TC.seq ?_
    have hrow := encI_get l i h0 (by omega)
    refine TC.region ?_; refine TL.run1 (pure_move rfl) rfl ?_; refine TL.run1 (pure_move rfl) rfl ?_; refine TL.run1 (pure_move rfl) rfl ?_; refine TL.run1 (pure_indexAddr Ty.sl50 rfl rfl (by omega) (by assumption) (List.cons_ne_nil _ _)) rfl ?_
    first | refine TL.run1 (pure_load1 Ty.one3 rfl) rfl ?_ | refine TL.run1 (pure_load1_own Ty.one3 rfl (by repeat (first | exact List.Mem.head _ | apply List.Mem.tail)) (by repeat (first | exact DropR.zero _ | apply DropR.succ))) rfl ?_
    refine TL.run1 (pure_eql rfl rfl) rfl ?_; refine TL.nil' ?_
    first | refine TC.condD rfl (fun hc16 => ?_) (fun hc16 => ?_) | refine TC.condN rfl (fun hc16 => ?_) (fun hc16 => ?_) | refine TC.cond rfl (fun hc16 => ?_) (fun hc16 => ?_)
    · try dsimp only at hc16
      refine TC.seq ?_; refine TC.region ?_; refine TL.run1 (pure_move rfl) rfl ?_; refine TL.run1 (pure_assign rfl) rfl ?_; refine TL.nil' ?_; refine TC.ret ?_; refine block_ret ?_; refine then_ret ?_; refine loop_ret ?_; refine block_ret ?_; refine then_ret ?_
      first | exact ret_int rfl (idxN_at l v i h0 (by omega) (Eq.symm hc16) h2).symm | exact ret_int rfl (idxN_none l v fun j a b => h2 j a (by omega)).symm
    · try dsimp only at hc16
      refine TC.skip ?_; refine block_normal ?_; refine then_normal ?_; refine TC.region ?_; refine TL.run1 (pure_add rfl rfl (mkI64 (by omega) (by omega))) rfl ?_; refine TL.run1 (pure_move rfl) rfl ?_; refine TL.nil ?_
      refine loop_next (i + 1) ⟨by repeat (first | exact Agree.nil | refine Agree.cons rfl ?_), by repeat (first | exact List.nil_sublist _ | exact List.Sublist.refl _ | apply List.Sublist.cons_cons | apply List.Sublist.cons)⟩ ⟨by omega, by omega, fun j a b => ?_⟩ (by omega)
      rcases Int.lt_or_eq_of_le (show j ≤ i by omega) with h | h
      · exact h2 j a h
      · rw [h]; exact fun e => hc16 e.symm
  · try dsimp only at hc9
    refine TC.exit ?_; refine then_exit ?_; refine loop_exit ?_; refine block_here ?_; refine then_normal ?_; refine TC.seq ?_; refine TC.region ?_; refine TL.run1 (pure_assign rfl) rfl ?_; refine TL.nil' ?_; refine TC.ret ?_
    first | exact ret_int rfl (idxN_at l v i h0 (by omega) (Eq.symm hc16) h2).symm | exact ret_int rfl (idxN_none l v fun j a b => h2 j a (by omega)).symm
set_option maxRecDepth 100000 in
theorem contains_spec (l : List Int) (v : Int) (hl : l.length ≤ 1000000) : Fun Try.prog 85 [.sl 1 (encI l), .v (.int .i64 v)] (.v (.bool (decide (v ∈ l)))) := by
  refine Fun.enter (n := 9) (rs := [.tmp 4]) Try.func85 rfl Try.ntmps85 Try.results85 rfl (fun w F => ?_)
  refine TC.seq ?_; refine TC.region ?_; refine TL.run1 (pure_assign rfl) rfl ?_; refine TL.nil' ?_; refine TC.seq ?_; refine TC.region ?_; refine TL.run1 (pure_move rfl) rfl ?_; refine TL.run1 (pure_move rfl) rfl ?_; refine TL.run1 (pure_call (index_spec _ _ hl) (.cons rfl (.cons rfl .nil)) Try.call98) rfl ?_; refine TL.run1 (pure_geq rfl rfl) rfl ?_; refine TL.run1 (pure_assign rfl) rfl ?_; refine TL.nil' ?_; refine TC.ret ?_
  exact ret_bool rfl (by rw [decide_eq_decide]; exact idxN_ge l v)
theorem groupsOf_len (e : Int) : (groupsOf e).length ≤ 1000000 := by
  unfold groupsOf; repeat' split
  all_goals simp
theorem findK_spec' (key : Int) : Fun Try.prog 84 [.v (.int .i64 key)] (.tup [.agg (encK1 (findK key)), .v (.bool (inI (keysK tableK) key))]) := findK_spec key
set_option maxRecDepth 100000 in
theorem Fits_spec (e key : Int) : Fun Try.prog 72 [.v (.int .i64 e), .v (.int .i64 key)] (.v (.bool (fitsP e key))) := by
  refine Fun.enter (n := 20) (rs := [.tmp 4]) Try.func72 rfl Try.ntmps72 Try.results72 rfl (fun w F => ?_)
  refine TC.seq ?_; refine TC.region ?_; refine TL.run1 (pure_assign rfl) rfl ?_; refine TL.nil' ?_; refine TC.seq ?_; refine TC.region ?_; refine TL.run1 (pure_move rfl) rfl ?_; refine TL.run1 (pure_call (findK_spec _) (.cons rfl .nil) Try.call84) rfl ?_; refine TL.run1 (pure_move rfl) rfl ?_; refine TL.run1 (pure_extract rfl rfl) rfl ?_; refine TL.run1 (pure_extract rfl rfl) rfl ?_
  refine TL.alloc Ty.zero103 rfl (fun g5 => ?_)
  refine TL.store rfl rfl (.agg _) Try.sizeOf103 rfl (by repeat (first | exact UpdR.here _ | apply UpdR.there)) (by repeat (first | exact PutR.nil _ | apply PutR.here | apply PutR.skip)) ?_; refine TL.run1 (pure_assign rfl) rfl ?_; refine TL.nil' ?_; refine TC.seq ?_; refine TC.draw Ty.follows (by kernel_rfl) ?_; refine TD.run1 (pure_move rfl) rfl ?_; refine TD.run1 (pure_move rfl) rfl ?_
  first | refine TD.splitP 13 rfl (fun hg13 => ?_) (fun hg13 => ?_) | refine TD.split 13 rfl (fun hg13 => ?_) (fun hg13 => ?_)
  · try dsimp only at hg13
    have hin : inI (keysK tableK) key = true := decide_eq_true hg13
    refine TD.runG rfl rfl (pure_move rfl) rfl ?_; refine TD.runG rfl rfl (pure_call (groups_spec _) (.cons rfl .nil) Try.call86) rfl ?_
    first | refine TD.runG rfl rfl (pure_fieldAddr Ty.f103_1 rfl (.succ (.zero _)) (List.cons_ne_nil _ _)) rfl ?_ | refine TD.runG rfl rfl (pure_fieldAddr_own Ty.f103_1 rfl) rfl ?_
    first | refine TD.runG rfl rfl (pure_load1 Ty.one3 rfl) rfl ?_ | refine TD.runG rfl rfl (pure_load1_own Ty.one3 rfl (by repeat (first | exact List.Mem.head _ | apply List.Mem.tail)) (by repeat (first | exact DropR.zero _ | apply DropR.succ))) rfl ?_
    refine TD.runG rfl rfl (pure_call (contains_spec _ _ (groupsOf_len _)) (.cons rfl (.cons rfl .nil)) Try.call85) rfl ?_; refine TD.run1 (pure_pick_true rfl rfl) rfl ?_; refine TD.run1 (pure_assign rfl) rfl ?_; refine TD.nil' ?_; refine TC.ret ?_
    exact ret_bool rfl (by unfold fitsP; rw [hin]; simp)
  · try dsimp only at hg13
    have hin : inI (keysK tableK) key = false := decide_eq_false hg13
    refine TD.passG rfl rfl rfl rfl ?_; refine TD.passG rfl rfl rfl rfl ?_; refine TD.passG rfl rfl rfl rfl ?_; refine TD.passG rfl rfl rfl rfl ?_; refine TD.passG rfl rfl rfl rfl ?_; refine TD.run1 (pure_pick_false rfl rfl) rfl ?_; refine TD.run1 (pure_assign rfl) rfl ?_; refine TD.nil' ?_; refine TC.ret ?_
    exact ret_bool rfl (by unfold fitsP; rw [hin]; simp)
set_option maxRecDepth 100000 in
theorem RFits_spec (e key : Int) : Fun Try.prog 79 [.v (.int .i64 e), .v (.int .i64 key)] (.v (.bool (fitsP e key))) := by
  refine Fun.enter (n := 53) (rs := [.tmp 4]) Try.func79 rfl Try.ntmps79 Try.results79 rfl (fun w F => ?_)
  refine TC.seq ?_; refine TC.region ?_; refine TL.run1 (pure_assign rfl) rfl ?_; refine TL.nil' ?_; refine TC.seq ?_; refine TC.region ?_; refine TL.run1 (pure_move rfl) rfl ?_; refine TL.run1 (pure_call (Of_spec _) (.cons rfl .nil) Try.call21) rfl ?_; refine TL.run1 (pure_move rfl) rfl ?_; refine TL.run1 (pure_extract rfl rfl) rfl ?_; refine TL.run1 (pure_extract rfl rfl) rfl ?_
  refine TL.alloc Ty.zero40 rfl (fun g5 => ?_)
  refine TL.store rfl rfl (.agg _) Try.sizeOf40 rfl (by repeat (first | exact UpdR.here _ | apply UpdR.there)) (by repeat (first | exact PutR.nil _ | apply PutR.here | apply PutR.skip)) ?_; refine TL.run1 (pure_assign rfl) rfl ?_; refine TL.nil' ?_; refine TC.seq ?_; refine TC.seq ?_; refine TC.region ?_; refine TL.run1 (pure_move rfl) rfl ?_; refine TL.run1 (pure_not rfl) rfl ?_; refine TL.nil' ?_
  first | refine TC.condD rfl (fun hc13 => ?_) (fun hc13 => ?_) | refine TC.condN rfl (fun hc13 => ?_) (fun hc13 => ?_) | refine TC.cond rfl (fun hc13 => ?_) (fun hc13 => ?_)
  · try dsimp only at hc13
    have hin : inI (keysK tableK) key = false := decide_eq_false hc13
    refine TC.seq ?_; refine TC.region ?_; refine TL.run1 (pure_assign rfl) rfl ?_; refine TL.nil' ?_; refine TC.ret ?_; refine then_ret ?_
    exact ret_bool rfl (by unfold fitsP groupsOf; rw [hin]; clear hin hc13; simp_all)
  · try dsimp only at hc13
    have hin : inI (keysK tableK) key = true := decide_eq_true hc13
    refine TC.skip' ?_; refine TC.seq ?_; refine TC.seq ?_; refine TC.region ?_; refine TL.run1 (pure_move rfl) rfl ?_; refine TL.nil' ?_; refine TC.block ?_; refine TC.seq ?_; refine TC.seq ?_; refine TC.region ?_; refine TL.run1 (pure_eql rfl rfl) rfl ?_; refine TL.run1 (pure_assign rfl) rfl ?_; refine TL.nil' ?_
    first | refine TC.condD rfl (fun hc15 => ?_) (fun hc15 => ?_) | refine TC.condN rfl (fun hc15 => ?_) (fun hc15 => ?_) | refine TC.cond rfl (fun hc15 => ?_) (fun hc15 => ?_)
    · try dsimp only at hc15
      refine TC.skip' ?_
      first | refine TC.condD rfl (fun hc15 => ?_) (fun hc15 => ?_) | refine TC.condN rfl (fun hc15 => ?_) (fun hc15 => ?_) | refine TC.cond rfl (fun hc15 => ?_) (fun hc15 => ?_)
      · try dsimp only at hc15
        refine TC.seq ?_; refine TC.region ?_
        first | refine TL.run1 (pure_fieldAddr Ty.f40_1 rfl (.succ (.zero _)) (List.cons_ne_nil _ _)) rfl ?_ | refine TL.run1 (pure_fieldAddr_own Ty.f40_1 rfl) rfl ?_
        first | refine TL.run1 (pure_load1 Ty.one3 rfl) rfl ?_ | refine TL.run1 (pure_load1_own Ty.one3 rfl (by repeat (first | exact List.Mem.head _ | apply List.Mem.tail)) (by repeat (first | exact DropR.zero _ | apply DropR.succ))) rfl ?_
        refine TL.run1 (pure_eql rfl rfl) rfl ?_; refine TL.run1 (pure_assign rfl) rfl ?_; refine TL.nil' ?_; refine TC.ret ?_; refine block_ret ?_; refine then_ret ?_
        exact ret_bool rfl (by unfold fitsP groupsOf; rw [hin]; clear hin hc13; simp_all)
      · try dsimp only at hc15
        refine TC.seq ?_; refine TC.region ?_; refine TL.run1 (pure_eql rfl rfl) rfl ?_; refine TL.run1 (pure_assign rfl) rfl ?_; refine TL.nil' ?_
        first | refine TC.condD rfl (fun hc23 => ?_) (fun hc23 => ?_) | refine TC.condN rfl (fun hc23 => ?_) (fun hc23 => ?_) | refine TC.cond rfl (fun hc23 => ?_) (fun hc23 => ?_)
        · try dsimp only at hc23
          refine TC.seq ?_; refine TC.region ?_
          first | refine TL.run1 (pure_fieldAddr Ty.f40_1 rfl (.succ (.zero _)) (List.cons_ne_nil _ _)) rfl ?_ | refine TL.run1 (pure_fieldAddr_own Ty.f40_1 rfl) rfl ?_
          first | refine TL.run1 (pure_load1 Ty.one3 rfl) rfl ?_ | refine TL.run1 (pure_load1_own Ty.one3 rfl (by repeat (first | exact List.Mem.head _ | apply List.Mem.tail)) (by repeat (first | exact DropR.zero _ | apply DropR.succ))) rfl ?_
          refine TL.run1 (pure_eql rfl rfl) rfl ?_; refine TL.run1 (pure_move rfl) rfl ?_
          first | refine TL.splitP 28 rfl (fun hg28 => ?_) (fun hg28 => ?_) | refine TL.split 28 rfl (fun hg28 => ?_) (fun hg28 => ?_)
          · try dsimp only at hg28
            refine TL.passG rfl rfl rfl rfl ?_; refine TL.passG rfl rfl rfl rfl ?_; refine TL.passG rfl rfl rfl rfl ?_; refine TL.run1 (pure_pick_true rfl rfl) rfl ?_; refine TL.run1 (pure_assign rfl) rfl ?_; refine TL.nil' ?_; refine TC.ret ?_; refine block_ret ?_; refine then_ret ?_
            exact ret_bool rfl (by unfold fitsP groupsOf; rw [hin]; clear hin hc13; simp_all)
          · try dsimp only at hg28
            first | refine TL.runG rfl rfl (pure_fieldAddr Ty.f40_1 rfl (.succ (.zero _)) (List.cons_ne_nil _ _)) rfl ?_ | refine TL.runG rfl rfl (pure_fieldAddr_own Ty.f40_1 rfl) rfl ?_
            first | refine TL.runG rfl rfl (pure_load1 Ty.one3 rfl) rfl ?_ | refine TL.runG rfl rfl (pure_load1_own Ty.one3 rfl (by repeat (first | exact List.Mem.head _ | apply List.Mem.tail)) (by repeat (first | exact DropR.zero _ | apply DropR.succ))) rfl ?_
            refine TL.runG rfl rfl (pure_eql rfl rfl) rfl ?_; refine TL.run1 (pure_pick_false rfl rfl) rfl ?_; refine TL.run1 (pure_assign rfl) rfl ?_; refine TL.nil' ?_; refine TC.ret ?_; refine block_ret ?_; refine then_ret ?_
            exact ret_bool rfl (by unfold fitsP groupsOf; rw [hin]; clear hin hc13; simp_all)
        · try dsimp only at hc23
          refine TC.seq ?_; refine TC.region ?_; refine TL.run1 (pure_eql rfl rfl) rfl ?_; refine TL.run1 (pure_assign rfl) rfl ?_; refine TL.nil' ?_
          first | refine TC.condD rfl (fun hc33 => ?_) (fun hc33 => ?_) | refine TC.condN rfl (fun hc33 => ?_) (fun hc33 => ?_) | refine TC.cond rfl (fun hc33 => ?_) (fun hc33 => ?_)
          · try dsimp only at hc33
            refine TC.seq ?_; refine TC.region ?_
            first | refine TL.run1 (pure_fieldAddr Ty.f40_1 rfl (.succ (.zero _)) (List.cons_ne_nil _ _)) rfl ?_ | refine TL.run1 (pure_fieldAddr_own Ty.f40_1 rfl) rfl ?_
            first | refine TL.run1 (pure_load1 Ty.one3 rfl) rfl ?_ | refine TL.run1 (pure_load1_own Ty.one3 rfl (by repeat (first | exact List.Mem.head _ | apply List.Mem.tail)) (by repeat (first | exact DropR.zero _ | apply DropR.succ))) rfl ?_
            refine TL.run1 (pure_eql rfl rfl) rfl ?_; refine TL.run1 (pure_assign rfl) rfl ?_; refine TL.nil' ?_; refine TC.ret ?_; refine block_ret ?_; refine then_ret ?_
            exact ret_bool rfl (by unfold fitsP groupsOf; rw [hin]; clear hin hc13; simp_all)
          · try dsimp only at hc33
            refine TC.seq ?_; refine TC.region ?_; refine TL.run1 (pure_eql rfl rfl) rfl ?_; refine TL.run1 (pure_assign rfl) rfl ?_; refine TL.nil' ?_
            first | refine TC.condD rfl (fun hc38 => ?_) (fun hc38 => ?_) | refine TC.condN rfl (fun hc38 => ?_) (fun hc38 => ?_) | refine TC.cond rfl (fun hc38 => ?_) (fun hc38 => ?_)
            · try dsimp only at hc38
              refine TC.seq ?_; refine TC.region ?_
              first | refine TL.run1 (pure_fieldAddr Ty.f40_1 rfl (.succ (.zero _)) (List.cons_ne_nil _ _)) rfl ?_ | refine TL.run1 (pure_fieldAddr_own Ty.f40_1 rfl) rfl ?_
              first | refine TL.run1 (pure_load1 Ty.one3 rfl) rfl ?_ | refine TL.run1 (pure_load1_own Ty.one3 rfl (by repeat (first | exact List.Mem.head _ | apply List.Mem.tail)) (by repeat (first | exact DropR.zero _ | apply DropR.succ))) rfl ?_
              refine TL.run1 (pure_eql rfl rfl) rfl ?_; refine TL.run1 (pure_assign rfl) rfl ?_; refine TL.nil' ?_; refine TC.ret ?_; refine block_ret ?_; refine then_ret ?_
              exact ret_bool rfl (by unfold fitsP groupsOf; rw [hin]; clear hin hc13; simp_all)
            · try dsimp only at hc38
              refine TC.seq ?_; refine TC.region ?_; refine TL.run1 (pure_eql rfl rfl) rfl ?_; refine TL.run1 (pure_assign rfl) rfl ?_; refine TL.nil' ?_
              first | refine TC.condD rfl (fun hc43 => ?_) (fun hc43 => ?_) | refine TC.condN rfl (fun hc43 => ?_) (fun hc43 => ?_) | refine TC.cond rfl (fun hc43 => ?_) (fun hc43 => ?_)
              · try dsimp only at hc43
                refine TC.seq ?_; refine TC.region ?_
                first | refine TL.run1 (pure_fieldAddr Ty.f40_1 rfl (.succ (.zero _)) (List.cons_ne_nil _ _)) rfl ?_ | refine TL.run1 (pure_fieldAddr_own Ty.f40_1 rfl) rfl ?_
                first | refine TL.run1 (pure_load1 Ty.one3 rfl) rfl ?_ | refine TL.run1 (pure_load1_own Ty.one3 rfl (by repeat (first | exact List.Mem.head _ | apply List.Mem.tail)) (by repeat (first | exact DropR.zero _ | apply DropR.succ))) rfl ?_
                refine TL.run1 (pure_eql rfl rfl) rfl ?_; refine TL.run1 (pure_assign rfl) rfl ?_; refine TL.nil' ?_; refine TC.ret ?_; refine block_ret ?_; refine then_ret ?_
                exact ret_bool rfl (by unfold fitsP groupsOf; rw [hin]; clear hin hc13; simp_all)
              · try dsimp only at hc43
                refine TC.seq ?_; refine TC.region ?_; refine TL.run1 (pure_eql rfl rfl) rfl ?_; refine TL.run1 (pure_assign rfl) rfl ?_; refine TL.nil' ?_
                first | refine TC.condD rfl (fun hc48 => ?_) (fun hc48 => ?_) | refine TC.condN rfl (fun hc48 => ?_) (fun hc48 => ?_) | refine TC.cond rfl (fun hc48 => ?_) (fun hc48 => ?_)
                · try dsimp only at hc48
                  refine TC.seq ?_; refine TC.region ?_
                  first | refine TL.run1 (pure_fieldAddr Ty.f40_1 rfl (.succ (.zero _)) (List.cons_ne_nil _ _)) rfl ?_ | refine TL.run1 (pure_fieldAddr_own Ty.f40_1 rfl) rfl ?_
                  first | refine TL.run1 (pure_load1 Ty.one3 rfl) rfl ?_ | refine TL.run1 (pure_load1_own Ty.one3 rfl (by repeat (first | exact List.Mem.head _ | apply List.Mem.tail)) (by repeat (first | exact DropR.zero _ | apply DropR.succ))) rfl ?_
                  refine TL.run1 (pure_eql rfl rfl) rfl ?_; refine TL.run1 (pure_assign rfl) rfl ?_; refine TL.nil' ?_; refine TC.ret ?_; refine block_ret ?_; refine then_ret ?_
                  exact ret_bool rfl (by unfold fitsP groupsOf; rw [hin]; clear hin hc13; simp_all)
                · try dsimp only at hc48
                  refine TC.skip ?_; refine block_normal ?_; refine then_normal ?_; refine TC.seq ?_; refine TC.region ?_; refine TL.run1 (pure_assign rfl) rfl ?_; refine TL.nil' ?_; refine TC.ret ?_
                  exact ret_bool rfl (by unfold fitsP groupsOf; rw [hin]; clear hin hc13; simp_all)
    · try dsimp only at hc15
      refine TC.seq ?_; refine TC.region ?_; refine TL.run1 (pure_eql rfl rfl) rfl ?_; refine TL.run1 (pure_assign rfl) rfl ?_; refine TL.nil' ?_
      first | refine TC.condD rfl (fun hc15 => ?_) (fun hc15 => ?_) | refine TC.condN rfl (fun hc15 => ?_) (fun hc15 => ?_) | refine TC.cond rfl (fun hc15 => ?_) (fun hc15 => ?_)
      · try dsimp only at hc15
        refine TC.skip' ?_
        first | refine TC.condD rfl (fun hc15 => ?_) (fun hc15 => ?_) | refine TC.condN rfl (fun hc15 => ?_) (fun hc15 => ?_) | refine TC.cond rfl (fun hc15 => ?_) (fun hc15 => ?_)
        · try dsimp only at hc15
          refine TC.seq ?_; refine TC.region ?_
          first | refine TL.run1 (pure_fieldAddr Ty.f40_1 rfl (.succ (.zero _)) (List.cons_ne_nil _ _)) rfl ?_ | refine TL.run1 (pure_fieldAddr_own Ty.f40_1 rfl) rfl ?_
          first | refine TL.run1 (pure_load1 Ty.one3 rfl) rfl ?_ | refine TL.run1 (pure_load1_own Ty.one3 rfl (by repeat (first | exact List.Mem.head _ | apply List.Mem.tail)) (by repeat (first | exact DropR.zero _ | apply DropR.succ))) rfl ?_
          refine TL.run1 (pure_eql rfl rfl) rfl ?_; refine TL.run1 (pure_assign rfl) rfl ?_; refine TL.nil' ?_; refine TC.ret ?_; refine block_ret ?_; refine then_ret ?_
          exact ret_bool rfl (by unfold fitsP groupsOf; rw [hin]; clear hin hc13; simp_all)
        · try dsimp only at hc15
          refine TC.seq ?_; refine TC.region ?_; refine TL.run1 (pure_eql rfl rfl) rfl ?_; refine TL.run1 (pure_assign rfl) rfl ?_; refine TL.nil' ?_
          first | refine TC.condD rfl (fun hc23 => ?_) (fun hc23 => ?_) | refine TC.condN rfl (fun hc23 => ?_) (fun hc23 => ?_) | refine TC.cond rfl (fun hc23 => ?_) (fun hc23 => ?_)
          · try dsimp only at hc23
            refine TC.seq ?_; refine TC.region ?_
            first | refine TL.run1 (pure_fieldAddr Ty.f40_1 rfl (.succ (.zero _)) (List.cons_ne_nil _ _)) rfl ?_ | refine TL.run1 (pure_fieldAddr_own Ty.f40_1 rfl) rfl ?_
            first | refine TL.run1 (pure_load1 Ty.one3 rfl) rfl ?_ | refine TL.run1 (pure_load1_own Ty.one3 rfl (by repeat (first | exact List.Mem.head _ | apply List.Mem.tail)) (by repeat (first | exact DropR.zero _ | apply DropR.succ))) rfl ?_
            refine TL.run1 (pure_eql rfl rfl) rfl ?_; refine TL.run1 (pure_move rfl) rfl ?_
            first | refine TL.splitP 28 rfl (fun hg28 => ?_) (fun hg28 => ?_) | refine TL.split 28 rfl (fun hg28 => ?_) (fun hg28 => ?_)
            · try dsimp only at hg28
              refine TL.passG rfl rfl rfl rfl ?_; refine TL.passG rfl rfl rfl rfl ?_; refine TL.passG rfl rfl rfl rfl ?_; refine TL.run1 (pure_pick_true rfl rfl) rfl ?_; refine TL.run1 (pure_assign rfl) rfl ?_; refine TL.nil' ?_; refine TC.ret ?_; refine block_ret ?_; refine then_ret ?_
              exact ret_bool rfl (by unfold fitsP groupsOf; rw [hin]; clear hin hc13; simp_all)
            · try dsimp only at hg28
              first | refine TL.runG rfl rfl (pure_fieldAddr Ty.f40_1 rfl (.succ (.zero _)) (List.cons_ne_nil _ _)) rfl ?_ | refine TL.runG rfl rfl (pure_fieldAddr_own Ty.f40_1 rfl) rfl ?_
              first | refine TL.runG rfl rfl (pure_load1 Ty.one3 rfl) rfl ?_ | refine TL.runG rfl rfl (pure_load1_own Ty.one3 rfl (by repeat (first | exact List.Mem.head _ | apply List.Mem.tail)) (by repeat (first | exact DropR.zero _ | apply DropR.succ))) rfl ?_
              refine TL.runG rfl rfl (pure_eql rfl rfl) rfl ?_; refine TL.run1 (pure_pick_false rfl rfl) rfl ?_; refine TL.run1 (pure_assign rfl) rfl ?_; refine TL.nil' ?_; refine TC.ret ?_; refine block_ret ?_; refine then_ret ?_
              exact ret_bool rfl (by unfold fitsP groupsOf; rw [hin]; clear hin hc13; simp_all)
          · try dsimp only at hc23
            refine TC.seq ?_; refine TC.region ?_; refine TL.run1 (pure_eql rfl rfl) rfl ?_; refine TL.run1 (pure_assign rfl) rfl ?_; refine TL.nil' ?_
            first | refine TC.condD rfl (fun hc33 => ?_) (fun hc33 => ?_) | refine TC.condN rfl (fun hc33 => ?_) (fun hc33 => ?_) | refine TC.cond rfl (fun hc33 => ?_) (fun hc33 => ?_)
            · try dsimp only at hc33
              refine TC.seq ?_; refine TC.region ?_
              first | refine TL.run1 (pure_fieldAddr Ty.f40_1 rfl (.succ (.zero _)) (List.cons_ne_nil _ _)) rfl ?_ | refine TL.run1 (pure_fieldAddr_own Ty.f40_1 rfl) rfl ?_
              first | refine TL.run1 (pure_load1 Ty.one3 rfl) rfl ?_ | refine TL.run1 (pure_load1_own Ty.one3 rfl (by repeat (first | exact List.Mem.head _ | apply List.Mem.tail)) (by repeat (first | exact DropR.zero _ | apply DropR.succ))) rfl ?_
              refine TL.run1 (pure_eql rfl rfl) rfl ?_; refine TL.run1 (pure_assign rfl) rfl ?_; refine TL.nil' ?_; refine TC.ret ?_; refine block_ret ?_; refine then_ret ?_
              exact ret_bool rfl (by unfold fitsP groupsOf; rw [hin]; clear hin hc13; simp_all)
            · try dsimp only at hc33
              refine TC.seq ?_; refine TC.region ?_; refine TL.run1 (pure_eql rfl rfl) rfl ?_; refine TL.run1 (pure_assign rfl) rfl ?_; refine TL.nil' ?_
              first | refine TC.condD rfl (fun hc38 => ?_) (fun hc38 => ?_) | refine TC.condN rfl (fun hc38 => ?_) (fun hc38 => ?_) | refine TC.cond rfl (fun hc38 => ?_) (fun hc38 => ?_)
              · try dsimp only at hc38
                refine TC.seq ?_; refine TC.region ?_
                first | refine TL.run1 (pure_fieldAddr Ty.f40_1 rfl (.succ (.zero _)) (List.cons_ne_nil _ _)) rfl ?_ | refine TL.run1 (pure_fieldAddr_own Ty.f40_1 rfl) rfl ?_
                first | refine TL.run1 (pure_load1 Ty.one3 rfl) rfl ?_ | refine TL.run1 (pure_load1_own Ty.one3 rfl (by repeat (first | exact List.Mem.head _ | apply List.Mem.tail)) (by repeat (first | exact DropR.zero _ | apply DropR.succ))) rfl ?_
                refine TL.run1 (pure_eql rfl rfl) rfl ?_; refine TL.run1 (pure_assign rfl) rfl ?_; refine TL.nil' ?_; refine TC.ret ?_; refine block_ret ?_; refine then_ret ?_
                exact ret_bool rfl (by unfold fitsP groupsOf; rw [hin]; clear hin hc13; simp_all)
              · try dsimp only at hc38
                refine TC.seq ?_; refine TC.region ?_; refine TL.run1 (pure_eql rfl rfl) rfl ?_; refine TL.run1 (pure_assign rfl) rfl ?_; refine TL.nil' ?_
                first | refine TC.condD rfl (fun hc43 => ?_) (fun hc43 => ?_) | refine TC.condN rfl (fun hc43 => ?_) (fun hc43 => ?_) | refine TC.cond rfl (fun hc43 => ?_) (fun hc43 => ?_)
                · try dsimp only at hc43
                  refine TC.seq ?_; refine TC.region ?_
                  first | refine TL.run1 (pure_fieldAddr Ty.f40_1 rfl (.succ (.zero _)) (List.cons_ne_nil _ _)) rfl ?_ | refine TL.run1 (pure_fieldAddr_own Ty.f40_1 rfl) rfl ?_
                  first | refine TL.run1 (pure_load1 Ty.one3 rfl) rfl ?_ | refine TL.run1 (pure_load1_own Ty.one3 rfl (by repeat (first | exact List.Mem.head _ | apply List.Mem.tail)) (by repeat (first | exact DropR.zero _ | apply DropR.succ))) rfl ?_
                  refine TL.run1 (pure_eql rfl rfl) rfl ?_; refine TL.run1 (pure_assign rfl) rfl ?_; refine TL.nil' ?_; refine TC.ret ?_; refine block_ret ?_; refine then_ret ?_
                  exact ret_bool rfl (by unfold fitsP groupsOf; rw [hin]; clear hin hc13; simp_all)
                · try dsimp only at hc43
                  refine TC.seq ?_; refine TC.region ?_; refine TL.run1 (pure_eql rfl rfl) rfl ?_; refine TL.run1 (pure_assign rfl) rfl ?_; refine TL.nil' ?_
                  first | refine TC.condD rfl (fun hc48 => ?_) (fun hc48 => ?_) | refine TC.condN rfl (fun hc48 => ?_) (fun hc48 => ?_) | refine TC.cond rfl (fun hc48 => ?_) (fun hc48 => ?_)
                  · try dsimp only at hc48
                    refine TC.seq ?_; refine TC.region ?_
                    first | refine TL.run1 (pure_fieldAddr Ty.f40_1 rfl (.succ (.zero _)) (List.cons_ne_nil _ _)) rfl ?_ | refine TL.run1 (pure_fieldAddr_own Ty.f40_1 rfl) rfl ?_
                    first | refine TL.run1 (pure_load1 Ty.one3 rfl) rfl ?_ | refine TL.run1 (pure_load1_own Ty.one3 rfl (by repeat (first | exact List.Mem.head _ | apply List.Mem.tail)) (by repeat (first | exact DropR.zero _ | apply DropR.succ))) rfl ?_
                    refine TL.run1 (pure_eql rfl rfl) rfl ?_; refine TL.run1 (pure_assign rfl) rfl ?_; refine TL.nil' ?_; refine TC.ret ?_; refine block_ret ?_; refine then_ret ?_
                    exact ret_bool rfl (by unfold fitsP groupsOf; rw [hin]; clear hin hc13; simp_all)
                  · try dsimp only at hc48
                    refine TC.skip ?_; refine block_normal ?_; refine then_normal ?_; refine TC.seq ?_; refine TC.region ?_; refine TL.run1 (pure_assign rfl) rfl ?_; refine TL.nil' ?_; refine TC.ret ?_
                    exact ret_bool rfl (by unfold fitsP groupsOf; rw [hin]; clear hin hc13; simp_all)
      · try dsimp only at hc15
        refine TC.seq ?_; refine TC.region ?_; refine TL.run1 (pure_eql rfl rfl) rfl ?_; refine TL.run1 (pure_assign rfl) rfl ?_; refine TL.nil' ?_
        first | refine TC.condD rfl (fun hc15 => ?_) (fun hc15 => ?_) | refine TC.condN rfl (fun hc15 => ?_) (fun hc15 => ?_) | refine TC.cond rfl (fun hc15 => ?_) (fun hc15 => ?_)
        · try dsimp only at hc15
          refine TC.skip' ?_
          first | refine TC.condD rfl (fun hc15 => ?_) (fun hc15 => ?_) | refine TC.condN rfl (fun hc15 => ?_) (fun hc15 => ?_) | refine TC.cond rfl (fun hc15 => ?_) (fun hc15 => ?_)
          · try dsimp only at hc15
            refine TC.seq ?_; refine TC.region ?_
            first | refine TL.run1 (pure_fieldAddr Ty.f40_1 rfl (.succ (.zero _)) (List.cons_ne_nil _ _)) rfl ?_ | refine TL.run1 (pure_fieldAddr_own Ty.f40_1 rfl) rfl ?_
            first | refine TL.run1 (pure_load1 Ty.one3 rfl) rfl ?_ | refine TL.run1 (pure_load1_own Ty.one3 rfl (by repeat (first | exact List.Mem.head _ | apply List.Mem.tail)) (by repeat (first | exact DropR.zero _ | apply DropR.succ))) rfl ?_
            refine TL.run1 (pure_eql rfl rfl) rfl ?_; refine TL.run1 (pure_assign rfl) rfl ?_; refine TL.nil' ?_; refine TC.ret ?_; refine block_ret ?_; refine then_ret ?_
            exact ret_bool rfl (by unfold fitsP groupsOf; rw [hin]; clear hin hc13; simp_all)
          · try dsimp only at hc15
            refine TC.seq ?_; refine TC.region ?_; refine TL.run1 (pure_eql rfl rfl) rfl ?_; refine TL.run1 (pure_assign rfl) rfl ?_; refine TL.nil' ?_
            first | refine TC.condD rfl (fun hc23 => ?_) (fun hc23 => ?_) | refine TC.condN rfl (fun hc23 => ?_) (fun hc23 => ?_) | refine TC.cond rfl (fun hc23 => ?_) (fun hc23 => ?_)
            · try dsimp only at hc23
              refine TC.seq ?_; refine TC.region ?_
              first | refine TL.run1 (pure_fieldAddr Ty.f40_1 rfl (.succ (.zero _)) (List.cons_ne_nil _ _)) rfl ?_ | refine TL.run1 (pure_fieldAddr_own Ty.f40_1 rfl) rfl ?_
              first | refine TL.run1 (pure_load1 Ty.one3 rfl) rfl ?_ | refine TL.run1 (pure_load1_own Ty.one3 rfl (by repeat (first | exact List.Mem.head _ | apply List.Mem.tail)) (by repeat (first | exact DropR.zero _ | apply DropR.succ))) rfl ?_
              refine TL.run1 (pure_eql rfl rfl) rfl ?_; refine TL.run1 (pure_move rfl) rfl ?_
              first | refine TL.splitP 28 rfl (fun hg28 => ?_) (fun hg28 => ?_) | refine TL.split 28 rfl (fun hg28 => ?_) (fun hg28 => ?_)
              · try dsimp only at hg28
                refine TL.passG rfl rfl rfl rfl ?_; refine TL.passG rfl rfl rfl rfl ?_; refine TL.passG rfl rfl rfl rfl ?_; refine TL.run1 (pure_pick_true rfl rfl) rfl ?_; refine TL.run1 (pure_assign rfl) rfl ?_; refine TL.nil' ?_; refine TC.ret ?_; refine block_ret ?_; refine then_ret ?_
                exact ret_bool rfl (by unfold fitsP groupsOf; rw [hin]; clear hin hc13; simp_all)
              · try dsimp only at hg28
                first | refine TL.runG rfl rfl (pure_fieldAddr Ty.f40_1 rfl (.succ (.zero _)) (List.cons_ne_nil _ _)) rfl ?_ | refine TL.runG rfl rfl (pure_fieldAddr_own Ty.f40_1 rfl) rfl ?_
                first | refine TL.runG rfl rfl (pure_load1 Ty.one3 rfl) rfl ?_ | refine TL.runG rfl rfl (pure_load1_own Ty.one3 rfl (by repeat (first | exact List.Mem.head _ | apply List.Mem.tail)) (by repeat (first | exact DropR.zero _ | apply DropR.succ))) rfl ?_
                refine TL.runG rfl rfl (pure_eql rfl rfl) rfl ?_; refine TL.run1 (pure_pick_false rfl rfl) rfl ?_; refine TL.run1 (pure_assign rfl) rfl ?_; refine TL.nil' ?_; refine TC.ret ?_; refine block_ret ?_; refine then_ret ?_
                exact ret_bool rfl (by unfold fitsP groupsOf; rw [hin]; clear hin hc13; simp_all)
            · try dsimp only at hc23
              refine TC.seq ?_; refine TC.region ?_; refine TL.run1 (pure_eql rfl rfl) rfl ?_; refine TL.run1 (pure_assign rfl) rfl ?_; refine TL.nil' ?_
              first | refine TC.condD rfl (fun hc33 => ?_) (fun hc33 => ?_) | refine TC.condN rfl (fun hc33 => ?_) (fun hc33 => ?_) | refine TC.cond rfl (fun hc33 => ?_) (fun hc33 => ?_)
              · try dsimp only at hc33
                refine TC.seq ?_; refine TC.region ?_
                first | refine TL.run1 (pure_fieldAddr Ty.f40_1 rfl (.succ (.zero _)) (List.cons_ne_nil _ _)) rfl ?_ | refine TL.run1 (pure_fieldAddr_own Ty.f40_1 rfl) rfl ?_
                first | refine TL.run1 (pure_load1 Ty.one3 rfl) rfl ?_ | refine TL.run1 (pure_load1_own Ty.one3 rfl (by repeat (first | exact List.Mem.head _ | apply List.Mem.tail)) (by repeat (first | exact DropR.zero _ | apply DropR.succ))) rfl ?_
                refine TL.run1 (pure_eql rfl rfl) rfl ?_; refine TL.run1 (pure_assign rfl) rfl ?_; refine TL.nil' ?_; refine TC.ret ?_; refine block_ret ?_; refine then_ret ?_
                exact ret_bool rfl (by unfold fitsP groupsOf; rw [hin]; clear hin hc13; simp_all)
              · try dsimp only at hc33
                refine TC.seq ?_; refine TC.region ?_; refine TL.run1 (pure_eql rfl rfl) rfl ?_; refine TL.run1 (pure_assign rfl) rfl ?_; refine TL.nil' ?_
                first | refine TC.condD rfl (fun hc38 => ?_) (fun hc38 => ?_) | refine TC.condN rfl (fun hc38 => ?_) (fun hc38 => ?_) | refine TC.cond rfl (fun hc38 => ?_) (fun hc38 => ?_)
                · try dsimp only at hc38
                  refine TC.seq ?_; refine TC.region ?_
                  first | refine TL.run1 (pure_fieldAddr Ty.f40_1 rfl (.succ (.zero _)) (List.cons_ne_nil _ _)) rfl ?_ | refine TL.run1 (pure_fieldAddr_own Ty.f40_1 rfl) rfl ?_
                  first | refine TL.run1 (pure_load1 Ty.one3 rfl) rfl ?_ | refine TL.run1 (pure_load1_own Ty.one3 rfl (by repeat (first | exact List.Mem.head _ | apply List.Mem.tail)) (by repeat (first | exact DropR.zero _ | apply DropR.succ))) rfl ?_
                  refine TL.run1 (pure_eql rfl rfl) rfl ?_; refine TL.run1 (pure_assign rfl) rfl ?_; refine TL.nil' ?_; refine TC.ret ?_; refine block_ret ?_; refine then_ret ?_
                  exact ret_bool rfl (by unfold fitsP groupsOf; rw [hin]; clear hin hc13; simp_all)
                · try dsimp only at hc38
                  refine TC.seq ?_; refine TC.region ?_; refine TL.run1 (pure_eql rfl rfl) rfl ?_; refine TL.run1 (pure_assign rfl) rfl ?_; refine TL.nil' ?_
                  first | refine TC.condD rfl (fun hc43 => ?_) (fun hc43 => ?_) | refine TC.condN rfl (fun hc43 => ?_) (fun hc43 => ?_) | refine TC.cond rfl (fun hc43 => ?_) (fun hc43 => ?_)
                  · try dsimp only at hc43
                    refine TC.seq ?_; refine TC.region ?_
                    first | refine TL.run1 (pure_fieldAddr Ty.f40_1 rfl (.succ (.zero _)) (List.cons_ne_nil _ _)) rfl ?_ | refine TL.run1 (pure_fieldAddr_own Ty.f40_1 rfl) rfl ?_
                    first | refine TL.run1 (pure_load1 Ty.one3 rfl) rfl ?_ | refine TL.run1 (pure_load1_own Ty.one3 rfl (by repeat (first | exact List.Mem.head _ | apply List.Mem.tail)) (by repeat (first | exact DropR.zero _ | apply DropR.succ))) rfl ?_
                    refine TL.run1 (pure_eql rfl rfl) rfl ?_; refine TL.run1 (pure_assign rfl) rfl ?_; refine TL.nil' ?_; refine TC.ret ?_; refine block_ret ?_; refine then_ret ?_
                    exact ret_bool rfl (by unfold fitsP groupsOf; rw [hin]; clear hin hc13; simp_all)
                  · try dsimp only at hc43
                    refine TC.seq ?_; refine TC.region ?_; refine TL.run1 (pure_eql rfl rfl) rfl ?_; refine TL.run1 (pure_assign rfl) rfl ?_; refine TL.nil' ?_
                    first | refine TC.condD rfl (fun hc48 => ?_) (fun hc48 => ?_) | refine TC.condN rfl (fun hc48 => ?_) (fun hc48 => ?_) | refine TC.cond rfl (fun hc48 => ?_) (fun hc48 => ?_)
                    · try dsimp only at hc48
                      refine TC.seq ?_; refine TC.region ?_
                      first | refine TL.run1 (pure_fieldAddr Ty.f40_1 rfl (.succ (.zero _)) (List.cons_ne_nil _ _)) rfl ?_ | refine TL.run1 (pure_fieldAddr_own Ty.f40_1 rfl) rfl ?_
                      first | refine TL.run1 (pure_load1 Ty.one3 rfl) rfl ?_ | refine TL.run1 (pure_load1_own Ty.one3 rfl (by repeat (first | exact List.Mem.head _ | apply List.Mem.tail)) (by repeat (first | exact DropR.zero _ | apply DropR.succ))) rfl ?_
                      refine TL.run1 (pure_eql rfl rfl) rfl ?_; refine TL.run1 (pure_assign rfl) rfl ?_; refine TL.nil' ?_; refine TC.ret ?_; refine block_ret ?_; refine then_ret ?_
                      exact ret_bool rfl (by unfold fitsP groupsOf; rw [hin]; clear hin hc13; simp_all)
                    · try dsimp only at hc48
                      refine TC.skip ?_; refine block_normal ?_; refine then_normal ?_; refine TC.seq ?_; refine TC.region ?_; refine TL.run1 (pure_assign rfl) rfl ?_; refine TL.nil' ?_; refine TC.ret ?_
                      exact ret_bool rfl (by unfold fitsP groupsOf; rw [hin]; clear hin hc13; simp_all)
        · try dsimp only at hc15
          refine TC.region ?_; refine TL.run1 (pure_eql rfl rfl) rfl ?_; refine TL.run1 (pure_assign rfl) rfl ?_; refine TL.nil' ?_
          first | refine TC.condD rfl (fun hc15 => ?_) (fun hc15 => ?_) | refine TC.condN rfl (fun hc15 => ?_) (fun hc15 => ?_) | refine TC.cond rfl (fun hc15 => ?_) (fun hc15 => ?_)
          · try dsimp only at hc15
            refine TC.seq ?_; refine TC.region ?_
            first | refine TL.run1 (pure_fieldAddr Ty.f40_1 rfl (.succ (.zero _)) (List.cons_ne_nil _ _)) rfl ?_ | refine TL.run1 (pure_fieldAddr_own Ty.f40_1 rfl) rfl ?_
            first | refine TL.run1 (pure_load1 Ty.one3 rfl) rfl ?_ | refine TL.run1 (pure_load1_own Ty.one3 rfl (by repeat (first | exact List.Mem.head _ | apply List.Mem.tail)) (by repeat (first | exact DropR.zero _ | apply DropR.succ))) rfl ?_
            refine TL.run1 (pure_eql rfl rfl) rfl ?_; refine TL.run1 (pure_assign rfl) rfl ?_; refine TL.nil' ?_; refine TC.ret ?_; refine block_ret ?_; refine then_ret ?_
            exact ret_bool rfl (by unfold fitsP groupsOf; rw [hin]; clear hin hc13; simp_all)
          · try dsimp only at hc15
            refine TC.seq ?_; refine TC.region ?_; refine TL.run1 (pure_eql rfl rfl) rfl ?_; refine TL.run1 (pure_assign rfl) rfl ?_; refine TL.nil' ?_
            first | refine TC.condD rfl (fun hc23 => ?_) (fun hc23 => ?_) | refine TC.condN rfl (fun hc23 => ?_) (fun hc23 => ?_) | refine TC.cond rfl (fun hc23 => ?_) (fun hc23 => ?_)
            · try dsimp only at hc23
              refine TC.seq ?_; refine TC.region ?_
              first | refine TL.run1 (pure_fieldAddr Ty.f40_1 rfl (.succ (.zero _)) (List.cons_ne_nil _ _)) rfl ?_ | refine TL.run1 (pure_fieldAddr_own Ty.f40_1 rfl) rfl ?_
              first | refine TL.run1 (pure_load1 Ty.one3 rfl) rfl ?_ | refine TL.run1 (pure_load1_own Ty.one3 rfl (by repeat (first | exact List.Mem.head _ | apply List.Mem.tail)) (by repeat (first | exact DropR.zero _ | apply DropR.succ))) rfl ?_
              refine TL.run1 (pure_eql rfl rfl) rfl ?_; refine TL.run1 (pure_move rfl) rfl ?_
              first | refine TL.splitP 28 rfl (fun hg28 => ?_) (fun hg28 => ?_) | refine TL.split 28 rfl (fun hg28 => ?_) (fun hg28 => ?_)
              · try dsimp only at hg28
                refine TL.passG rfl rfl rfl rfl ?_; refine TL.passG rfl rfl rfl rfl ?_; refine TL.passG rfl rfl rfl rfl ?_; refine TL.run1 (pure_pick_true rfl rfl) rfl ?_; refine TL.run1 (pure_assign rfl) rfl ?_; refine TL.nil' ?_; refine TC.ret ?_; refine block_ret ?_; refine then_ret ?_
                exact ret_bool rfl (by unfold fitsP groupsOf; rw [hin]; clear hin hc13; simp_all)
              · try dsimp only at hg28
                first | refine TL.runG rfl rfl (pure_fieldAddr Ty.f40_1 rfl (.succ (.zero _)) (List.cons_ne_nil _ _)) rfl ?_ | refine TL.runG rfl rfl (pure_fieldAddr_own Ty.f40_1 rfl) rfl ?_
                first | refine TL.runG rfl rfl (pure_load1 Ty.one3 rfl) rfl ?_ | refine TL.runG rfl rfl (pure_load1_own Ty.one3 rfl (by repeat (first | exact List.Mem.head _ | apply List.Mem.tail)) (by repeat (first | exact DropR.zero _ | apply DropR.succ))) rfl ?_
                refine TL.runG rfl rfl (pure_eql rfl rfl) rfl ?_; refine TL.run1 (pure_pick_false rfl rfl) rfl ?_; refine TL.run1 (pure_assign rfl) rfl ?_; refine TL.nil' ?_; refine TC.ret ?_; refine block_ret ?_; refine then_ret ?_
                exact ret_bool rfl (by unfold fitsP groupsOf; rw [hin]; clear hin hc13; simp_all)
            · try dsimp only at hc23
              refine TC.seq ?_; refine TC.region ?_; refine TL.run1 (pure_eql rfl rfl) rfl ?_; refine TL.run1 (pure_assign rfl) rfl ?_; refine TL.nil' ?_
              first | refine TC.condD rfl (fun hc33 => ?_) (fun hc33 => ?_) | refine TC.condN rfl (fun hc33 => ?_) (fun hc33 => ?_) | refine TC.cond rfl (fun hc33 => ?_) (fun hc33 => ?_)
              · try dsimp only at hc33
                refine TC.seq ?_; refine TC.region ?_
                first | refine TL.run1 (pure_fieldAddr Ty.f40_1 rfl (.succ (.zero _)) (List.cons_ne_nil _ _)) rfl ?_ | refine TL.run1 (pure_fieldAddr_own Ty.f40_1 rfl) rfl ?_
                first | refine TL.run1 (pure_load1 Ty.one3 rfl) rfl ?_ | refine TL.run1 (pure_load1_own Ty.one3 rfl (by repeat (first | exact List.Mem.head _ | apply List.Mem.tail)) (by repeat (first | exact DropR.zero _ | apply DropR.succ))) rfl ?_
                refine TL.run1 (pure_eql rfl rfl) rfl ?_; refine TL.run1 (pure_assign rfl) rfl ?_; refine TL.nil' ?_; refine TC.ret ?_; refine block_ret ?_; refine then_ret ?_
                exact ret_bool rfl (by unfold fitsP groupsOf; rw [hin]; clear hin hc13; simp_all)
              · try dsimp only at hc33
                refine TC.seq ?_; refine TC.region ?_; refine TL.run1 (pure_eql rfl rfl) rfl ?_; refine TL.run1 (pure_assign rfl) rfl ?_; refine TL.nil' ?_
                first | refine TC.condD rfl (fun hc38 => ?_) (fun hc38 => ?_) | refine TC.condN rfl (fun hc38 => ?_) (fun hc38 => ?_) | refine TC.cond rfl (fun hc38 => ?_) (fun hc38 => ?_)
                · try dsimp only at hc38
                  refine TC.seq ?_; refine TC.region ?_
                  first | refine TL.run1 (pure_fieldAddr Ty.f40_1 rfl (.succ (.zero _)) (List.cons_ne_nil _ _)) rfl ?_ | refine TL.run1 (pure_fieldAddr_own Ty.f40_1 rfl) rfl ?_
                  first | refine TL.run1 (pure_load1 Ty.one3 rfl) rfl ?_ | refine TL.run1 (pure_load1_own Ty.one3 rfl (by repeat (first | exact List.Mem.head _ | apply List.Mem.tail)) (by repeat (first | exact DropR.zero _ | apply DropR.succ))) rfl ?_
                  refine TL.run1 (pure_eql rfl rfl) rfl ?_; refine TL.run1 (pure_assign rfl) rfl ?_; refine TL.nil' ?_; refine TC.ret ?_; refine block_ret ?_; refine then_ret ?_
                  exact ret_bool rfl (by unfold fitsP groupsOf; rw [hin]; clear hin hc13; simp_all)
                · try dsimp only at hc38
                  refine TC.seq ?_; refine TC.region ?_; refine TL.run1 (pure_eql rfl rfl) rfl ?_; refine TL.run1 (pure_assign rfl) rfl ?_; refine TL.nil' ?_
                  first | refine TC.condD rfl (fun hc43 => ?_) (fun hc43 => ?_) | refine TC.condN rfl (fun hc43 => ?_) (fun hc43 => ?_) | refine TC.cond rfl (fun hc43 => ?_) (fun hc43 => ?_)
                  · try dsimp only at hc43
                    refine TC.seq ?_; refine TC.region ?_
                    first | refine TL.run1 (pure_fieldAddr Ty.f40_1 rfl (.succ (.zero _)) (List.cons_ne_nil _ _)) rfl ?_ | refine TL.run1 (pure_fieldAddr_own Ty.f40_1 rfl) rfl ?_
                    first | refine TL.run1 (pure_load1 Ty.one3 rfl) rfl ?_ | refine TL.run1 (pure_load1_own Ty.one3 rfl (by repeat (first | exact List.Mem.head _ | apply List.Mem.tail)) (by repeat (first | exact DropR.zero _ | apply DropR.succ))) rfl ?_
                    refine TL.run1 (pure_eql rfl rfl) rfl ?_; refine TL.run1 (pure_assign rfl) rfl ?_; refine TL.nil' ?_; refine TC.ret ?_; refine block_ret ?_; refine then_ret ?_
                    exact ret_bool rfl (by unfold fitsP groupsOf; rw [hin]; clear hin hc13; simp_all)
                  · try dsimp only at hc43
                    refine TC.seq ?_; refine TC.region ?_; refine TL.run1 (pure_eql rfl rfl) rfl ?_; refine TL.run1 (pure_assign rfl) rfl ?_; refine TL.nil' ?_
                    first | refine TC.condD rfl (fun hc48 => ?_) (fun hc48 => ?_) | refine TC.condN rfl (fun hc48 => ?_) (fun hc48 => ?_) | refine TC.cond rfl (fun hc48 => ?_) (fun hc48 => ?_)
                    · try dsimp only at hc48
                      refine TC.seq ?_; refine TC.region ?_
                      first | refine TL.run1 (pure_fieldAddr Ty.f40_1 rfl (.succ (.zero _)) (List.cons_ne_nil _ _)) rfl ?_ | refine TL.run1 (pure_fieldAddr_own Ty.f40_1 rfl) rfl ?_
                      first | refine TL.run1 (pure_load1 Ty.one3 rfl) rfl ?_ | refine TL.run1 (pure_load1_own Ty.one3 rfl (by repeat (first | exact List.Mem.head _ | apply List.Mem.tail)) (by repeat (first | exact DropR.zero _ | apply DropR.succ))) rfl ?_
                      refine TL.run1 (pure_eql rfl rfl) rfl ?_; refine TL.run1 (pure_assign rfl) rfl ?_; refine TL.nil' ?_; refine TC.ret ?_; refine block_ret ?_; refine then_ret ?_
                      exact ret_bool rfl (by unfold fitsP groupsOf; rw [hin]; clear hin hc13; simp_all)
                    · try dsimp only at hc48
                      refine TC.skip ?_; refine block_normal ?_; refine then_normal ?_; refine TC.seq ?_; refine TC.region ?_; refine TL.run1 (pure_assign rfl) rfl ?_; refine TL.nil' ?_; refine TC.ret ?_
                      exact ret_bool rfl (by unfold fitsP groupsOf; rw [hin]; clear hin hc13; simp_all)
set_option maxRecDepth 100000 in
theorem CheckValue_spec (key v : Int) : Fun Try.prog 73 [.v (.int .i64 key), .v (.int .i64 v)] (.v (.int .i64 (checkV key v))) := by
  refine Fun.enter (n := 26) (rs := [.tmp 4]) Try.func73 rfl Try.ntmps73 Try.results73 rfl (fun w F => ?_)
  refine TC.seq ?_; refine TC.region ?_; refine TL.run1 (pure_assign rfl) rfl ?_; refine TL.nil' ?_; refine TC.seq ?_; refine TC.region ?_; refine TL.run1 (pure_move rfl) rfl ?_; refine TL.run1 (pure_call (findK_spec _) (.cons rfl .nil) Try.call84) rfl ?_; refine TL.run1 (pure_move rfl) rfl ?_; refine TL.run1 (pure_extract rfl rfl) rfl ?_; refine TL.run1 (pure_extract rfl rfl) rfl ?_
  refine TL.alloc Ty.zero103 rfl (fun g5 => ?_)
  refine TL.store rfl rfl (.agg _) Try.sizeOf103 rfl (by repeat (first | exact UpdR.here _ | apply UpdR.there)) (by repeat (first | exact PutR.nil _ | apply PutR.here | apply PutR.skip)) ?_; refine TL.run1 (pure_assign rfl) rfl ?_; refine TL.nil' ?_; refine TC.seq ?_; refine TC.block ?_; refine TC.seq ?_; refine TC.region ?_; refine TL.run1 (pure_move rfl) rfl ?_; refine TL.run1 (pure_not rfl) rfl ?_; refine TL.run1 (pure_assign rfl) rfl ?_; refine TL.nil' ?_
  first | refine TC.condD rfl (fun hc12 => ?_) (fun hc12 => ?_) | refine TC.condN rfl (fun hc12 => ?_) (fun hc12 => ?_) | refine TC.cond rfl (fun hc12 => ?_) (fun hc12 => ?_)
  · try dsimp only at hc12
    have hin : inI (keysK tableK) key = false := decide_eq_false hc12
    refine TC.seq ?_; refine TC.region ?_; refine TL.run1 (pure_assign rfl) rfl ?_; refine TL.nil' ?_; refine TC.ret ?_; refine block_ret ?_; refine then_ret ?_
    exact ret_int rfl (by unfold checkV; rw [hin]; simp_all)
  · try dsimp only at hc12
    have hin : inI (keysK tableK) key = true := decide_eq_true hc12
    refine TC.regionCut [16, 17, 18, 19, 20, 21, 22, 23, 24, 25, 15] 15 (v < (findK key).low ∨ v > (findK key).high) ?_ ?_
    · skip
      refine TL.run1 (pure_move rfl) rfl ?_
      first | refine TL.run1 (pure_fieldAddr Ty.f103_2 rfl (.succ (.succ (.zero _))) (List.cons_ne_nil _ _)) rfl ?_ | refine TL.run1 (pure_fieldAddr_own Ty.f103_2 rfl) rfl ?_
      first | refine TL.run1 (pure_load1 Ty.one3 rfl) rfl ?_ | refine TL.run1 (pure_load1_own Ty.one3 rfl (by repeat (first | exact List.Mem.head _ | apply List.Mem.tail)) (by repeat (first | exact DropR.zero _ | apply DropR.succ))) rfl ?_
      refine TL.run1 (pure_lss rfl rfl) rfl ?_; refine TL.run1 (pure_move rfl) rfl ?_
      first | refine TL.splitP 20 rfl (fun hg20 => ?_) (fun hg20 => ?_) | refine TL.split 20 rfl (fun hg20 => ?_) (fun hg20 => ?_)
      · try dsimp only at hg20
        refine TL.passG rfl rfl rfl rfl ?_; refine TL.passG rfl rfl rfl rfl ?_; refine TL.passG rfl rfl rfl rfl ?_; refine TL.passG rfl rfl rfl rfl ?_; refine TL.run1 (pure_pick_true rfl rfl) rfl ?_; refine TL.run1 (pure_assign rfl) rfl ?_; refine TL.cutEnd (by repeat (first | exact Same.refl _ _ | refine Same.put rfl ?_)) rfl ?_
        first | (simp only [decide_eq_true_eq, Bool.false_eq_true, false_iff, true_iff, iff_true, iff_false, Bool.not_eq_true]; omega) | (simp_all; done) | (simp_all; omega) | grind
      · try dsimp only at hg20
        refine TL.runG rfl rfl (pure_move rfl) rfl ?_
        first | refine TL.runG rfl rfl (pure_fieldAddr Ty.f103_3 rfl (.succ (.succ (.succ (.zero _)))) (List.cons_ne_nil _ _)) rfl ?_ | refine TL.runG rfl rfl (pure_fieldAddr_own Ty.f103_3 rfl) rfl ?_
        first | refine TL.runG rfl rfl (pure_load1 Ty.one3 rfl) rfl ?_ | refine TL.runG rfl rfl (pure_load1_own Ty.one3 rfl (by repeat (first | exact List.Mem.head _ | apply List.Mem.tail)) (by repeat (first | exact DropR.zero _ | apply DropR.succ))) rfl ?_
        refine TL.runG rfl rfl (pure_gtr rfl rfl) rfl ?_; refine TL.run1 (pure_pick_false rfl rfl) rfl ?_; refine TL.run1 (pure_assign rfl) rfl ?_; refine TL.cutEnd (by repeat (first | exact Same.refl _ _ | refine Same.put rfl ?_)) rfl ?_
        first | (simp only [decide_eq_true_eq, Bool.false_eq_true, false_iff, true_iff, iff_true, iff_false, Bool.not_eq_true]; omega) | (simp_all; done) | (simp_all; omega) | grind
    first | refine TC.condD rfl (fun hc15 => ?_) (fun hc15 => ?_) | refine TC.condN rfl (fun hc15 => ?_) (fun hc15 => ?_) | refine TC.cond rfl (fun hc15 => ?_) (fun hc15 => ?_)
    · try dsimp only at hc15
      refine TC.seq ?_; refine TC.region ?_; refine TL.run1 (pure_assign rfl) rfl ?_; refine TL.nil' ?_; refine TC.ret ?_; refine block_ret ?_; refine then_ret ?_
      exact ret_int rfl (by unfold checkV; rw [hin]; simp_all)
    · try dsimp only at hc15
      refine TC.skip ?_; refine block_normal ?_; refine then_normal ?_; refine TC.seq ?_; refine TC.region ?_; refine TL.run1 (pure_assign rfl) rfl ?_; refine TL.nil' ?_; refine TC.ret ?_
      exact ret_int rfl (by unfold checkV; rw [hin]; simp_all)
end Go.Ob
