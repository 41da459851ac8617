import Derived.Test.YtcfnfioefbkamaaDoorS5
set_option linter.unusedVariables false
set_option linter.unusedSimpArgs false
namespace Go.Ob
open Go.Proofs
/-! ### the rules of breaks -/
structure Rl where
  kind : Int
  which : Nat
  cl : List Int
def rt : List Rl := [⟨2, 0, [1]⟩, ⟨0, 1, [1, 2]⟩, ⟨0, 0, [3]⟩, ⟨0, 1, [3]⟩, ⟨1, 0, [2]⟩, ⟨3, 0, [4]⟩, ⟨0, 0, [8]⟩, ⟨0, 1, [4, 9, 10, 11, 12, 13]⟩, ⟨1, 0, [13]⟩, ⟨1, 2, []⟩, ⟨1, 0, [7]⟩, ⟨1, 1, [7]⟩]
def SpP (c : List Int) (i : Nat) : Prop := iAt c i = 12 ∧ iAt c ((i : Int) + 1) = 5 ∧ (atI c ((i : Int) - 1) = 5 ∨ atI c ((i : Int) - 1) = 6)
instance (c : List Int) (i : Nat) : Decidable (SpP c i) := by unfold SpP; infer_instance
def rapP (c : List Int) (i : Nat) (r : Rl) : Prop := if r.which = 0 then iAt c i ∈ r.cl else if r.which = 1 then iAt c ((i : Int) + 1) ∈ r.cl else SpP c i
instance (c : List Int) (i : Nat) (r : Rl) : Decidable (rapP c i r) := by unfold rapP; infer_instance
def brkF (c : List Int) (i : Nat) : List Rl → Int
  | [] => 0
  | r :: l => if rapP c i r then r.kind else brkF c i l
def brk (c : List Int) (i : Nat) : Int := brkF c i rt
def brkP (a b : Int) (sp : Prop) [Decidable sp] : Int :=
  if a = 1 then 2 else if b = 1 ∨ b = 2 then 0 else if a = 3 ∨ b = 3 then 0 else if a = 2 then 1 else if a = 4 then 3
  else if a = 8 ∨ b = 4 ∨ b = 9 ∨ b = 10 ∨ b = 11 ∨ b = 12 ∨ b = 13 then 0 else if a = 13 then 1 else if sp then 1 else if a = 7 ∨ b = 7 then 1 else 0
theorem rap0 (c : List Int) (i : Nat) (k : Int) (l : List Int) : rapP c i ⟨k, 0, l⟩ = (iAt c i ∈ l) := rfl
theorem rap1 (c : List Int) (i : Nat) (k : Int) (l : List Int) : rapP c i ⟨k, 1, l⟩ = (iAt c ((i : Int) + 1) ∈ l) := rfl
theorem rap2 (c : List Int) (i : Nat) (k : Int) (l : List Int) : rapP c i ⟨k, 2, l⟩ = SpP c i := rfl
theorem mem_one {a x : Int} : x ∈ [a] ↔ x = a := by simp
theorem mem_six {a b c d e f x : Int} : x ∈ [a, b, c, d, e, f] ↔ x = a ∨ x = b ∨ x = c ∨ x = d ∨ x = e ∨ x = f := by simp
set_option maxHeartbeats 2000000 in
theorem brk_eq (c : List Int) (i : Nat) : brk c i = brkP (iAt c i) (iAt c ((i : Int) + 1)) (SpP c i) := by
  have key : ∀ (a b : Int) (sp q1 q2 q3 q4 q5 q6 q7 q8 q9 q10 q11 q12 : Prop) [Decidable sp] [Decidable q1] [Decidable q2] [Decidable q3] [Decidable q4] [Decidable q5] [Decidable q6] [Decidable q7] [Decidable q8] [Decidable q9] [Decidable q10] [Decidable q11] [Decidable q12],
      (q1 ↔ a = 1) → (q2 ↔ b = 1 ∨ b = 2) → (q3 ↔ a = 3) → (q4 ↔ b = 3) → (q5 ↔ a = 2) → (q6 ↔ a = 4) → (q7 ↔ a = 8) → (q8 ↔ b = 4 ∨ b = 9 ∨ b = 10 ∨ b = 11 ∨ b = 12 ∨ b = 13) → (q9 ↔ a = 13) → (q10 ↔ sp) → (q11 ↔ a = 7) → (q12 ↔ b = 7) →
      (if q1 then (2 : Int) else if q2 then 0 else if q3 then 0 else if q4 then 0 else if q5 then 1 else if q6 then 3 else if q7 then 0 else if q8 then 0 else if q9 then 1 else if q10 then 1 else if q11 then 1 else if q12 then 1 else 0) = brkP a b sp := by
    intro a b sp q1 q2 q3 q4 q5 q6 q7 q8 q9 q10 q11 q12 _ _ _ _ _ _ _ _ _ _ _ _ _ h1 h2 h3 h4 h5 h6 h7 h8 h9 h10 h11 h12
    unfold brkP
    by_cases e1 : a = 1
    · rw [if_pos (h1.2 e1), if_pos e1]
    rw [if_neg (fun h => e1 (h1.1 h)), if_neg e1]
    by_cases e2 : b = 1 ∨ b = 2
    · rw [if_pos (h2.2 e2), if_pos e2]
    rw [if_neg (fun h => e2 (h2.1 h)), if_neg e2]
    by_cases e3 : a = 3 ∨ b = 3
    · rw [if_pos e3]
      rcases e3 with e | e
      · rw [if_pos (h3.2 e)]
      · split
        · rfl
        · rw [if_pos (h4.2 e)]
    rw [if_neg (fun h => e3 (.inl (h3.1 h))), if_neg (fun h => e3 (.inr (h4.1 h))), if_neg e3]
    by_cases e5 : a = 2
    · rw [if_pos (h5.2 e5), if_pos e5]
    rw [if_neg (fun h => e5 (h5.1 h)), if_neg e5]
    by_cases e6 : a = 4
    · rw [if_pos (h6.2 e6), if_pos e6]
    rw [if_neg (fun h => e6 (h6.1 h)), if_neg e6]
    by_cases e7 : a = 8 ∨ b = 4 ∨ b = 9 ∨ b = 10 ∨ b = 11 ∨ b = 12 ∨ b = 13
    · rw [if_pos e7]
      rcases e7 with e | e
      · rw [if_pos (h7.2 e)]
      · split
        · rfl
        · rw [if_pos (h8.2 e)]
    rw [if_neg (fun h => e7 (.inl (h7.1 h))), if_neg (fun h => e7 (.inr (h8.1 h))), if_neg e7]
    by_cases e9 : a = 13
    · rw [if_pos (h9.2 e9), if_pos e9]
    rw [if_neg (fun h => e9 (h9.1 h)), if_neg e9]
    by_cases e10 : sp
    · rw [if_pos (h10.2 e10), if_pos e10]
    rw [if_neg (fun h => e10 (h10.1 h)), if_neg e10]
    by_cases e11 : a = 7 ∨ b = 7
    · rw [if_pos e11]
      rcases e11 with e | e
      · rw [if_pos (h11.2 e)]
      · split
        · rfl
        · rw [if_pos (h12.2 e)]
    rw [if_neg (fun h => e11 (.inl (h11.1 h))), if_neg (fun h => e11 (.inr (h12.1 h))), if_neg e11]
  exact key (iAt c i) (iAt c ((i : Int) + 1)) (SpP c i) (rapP c i ⟨2, 0, [1]⟩) (rapP c i ⟨0, 1, [1, 2]⟩) (rapP c i ⟨0, 0, [3]⟩) (rapP c i ⟨0, 1, [3]⟩) (rapP c i ⟨1, 0, [2]⟩) (rapP c i ⟨3, 0, [4]⟩) (rapP c i ⟨0, 0, [8]⟩) (rapP c i ⟨0, 1, [4, 9, 10, 11, 12, 13]⟩) (rapP c i ⟨1, 0, [13]⟩) (rapP c i ⟨1, 2, []⟩) (rapP c i ⟨1, 0, [7]⟩) (rapP c i ⟨1, 1, [7]⟩)
    mem_one mem_pr mem_one mem_one mem_one mem_one mem_one mem_six mem_one Iff.rfl mem_one mem_one
theorem brk_range (c : List Int) (i : Nat) : 0 ≤ brk c i ∧ brk c i ≤ 3 := by
  rw [brk_eq]; unfold brkP
  repeat' split
  all_goals omega
def rAt (j : Nat) : Rl := rt.getD j ⟨0, 2, []⟩
theorem rt_which : ∀ j, j < 12 → (rAt j).which ≤ 2 ∧ (rAt j).cl.length ≤ 6 ∧ ((rAt j).which = 2 → (rAt j).kind = 1) := by decide
theorem rt_drop (c : List Int) (i : Nat) : ∀ j, j < 12 → brkF c i (rt.drop j) = if rapP c i (rAt j) then (rAt j).kind else brkF c i (rt.drop (j + 1)) := by
  intro j hj
  have h : j < rt.length := hj
  rw [List.drop_eq_getElem_cons h, brkF]
  have e : rAt j = rt[j] := by unfold rAt; rw [List.getD_eq_getElem?_getD, List.getElem?_eq_getElem h]; rfl
  rw [e]
/-- the breaks behind the first clusters -/
def brkTo (c b : List Int) : Nat → List (List D)
  | 0 => []
  | i + 1 => brkTo c b i ++ (if brk c i ≠ 0 then [[.v (.int .i64 (iAt b ((i + 1 : Nat) : Int))), .v (.int .i64 (brk c i))]] else [])
theorem brkTo_len (c b : List Int) : ∀ i, (brkTo c b i).length ≤ i
  | 0 => Nat.le_refl _
  | i + 1 => by
    have := brkTo_len c b i
    rw [brkTo, List.length_append]; split <;> simp <;> omega
theorem brkTo_each (c b : List Int) : ∀ i, ∀ x ∈ brkTo c b i, x.length = 2
  | 0, x, h => by cases h
  | i + 1, x, h => by
    rw [brkTo] at h
    rcases List.mem_append.1 h with h | h
    · exact brkTo_each c b i x h
    · split at h
      · rw [List.mem_singleton.1 h]; rfl
      · cases h
theorem brkTo_yes {c b : List Int} {i : Nat} (h : brk c i ≠ 0) : brkTo c b (i + 1) = brkTo c b i ++ [[.v (.int .i64 (iAt b ((i + 1 : Nat) : Int))), .v (.int .i64 (brk c i))]] := by rw [brkTo, if_pos h]
theorem brkTo_no {c b : List Int} {i : Nat} (h : ¬ brk c i ≠ 0) : brkTo c b (i + 1) = brkTo c b i := by rw [brkTo, if_neg h, List.append_nil]
def brkV (s : ByteArray) : List (List D) := if okS s = true then brkTo (scL s) (bnds (cls s)) ((scL s).length - 1) else []

def rfN (w : Nat) : Nat := if w = 0 then 65 else if w = 1 then 68 else 69
def rcaps (r : Rl) : List D := if r.which = 2 then [] else [.at_ [.v (.int .i64 r.kind)], .at_ [.sl 1 (encI r.cl)]]
def rulesD : List (List D) := rt.map fun r => [.fn (rfN r.which) (rcaps r)]
theorem rulesD_len : rulesD.length = 12 := rfl
theorem rulesD_get (j : Nat) (h : j < 12) : rulesD[j]? = some [.fn (rfN (rAt j).which) (rcaps (rAt j))] := by
  have h' : j < rt.length := h
  unfold rulesD rAt
  rw [List.getElem?_map, List.getElem?_eq_getElem h', List.getD_eq_getElem?_getD, List.getElem?_eq_getElem h']; rfl
set_option maxRecDepth 100000 in
theorem mkA_spec (k : Int) (l : List Int) : Fun Tryd.prog 64 [.v (.int .i64 k), .sl 1 (encI l)] (.fn 65 [.at_ [.v (.int .i64 k)], .at_ [.sl 1 (encI l)]]) := by
  refine Fun.enterF (n := 6) (rs := [.tmp 4]) Tryd.func64 rfl Tryd.ntmps64 Tryd.results64 rfl (fun w F => ?_); refine TC.seq ?_; refine TC.region ?_; refine TL.box rfl (.one rfl) rfl (fun g2 => ?_); refine TL.box rfl (.one rfl) rfl (fun g3 => ?_); refine TL.run1 (pure_assign rfl) rfl ?_; refine TL.nil' ?_; refine TC.seq ?_; refine TC.region ?_; refine TL.run1 (pure_makeFunc (.cons rfl (.cons rfl .nil))) rfl ?_; refine TL.run1 (pure_assign rfl) rfl ?_; refine TL.nil' ?_; refine TC.ret ?_
  exact retF1 (.inl rfl) rfl (.fnL (.cons (.boxS (by repeat (first | exact List.Mem.head _ | apply List.Mem.tail)) (List.cons_ne_nil _ _)) (.cons (.boxS (by repeat (first | exact List.Mem.head _ | apply List.Mem.tail)) (List.cons_ne_nil _ _)) .nil)))
set_option maxRecDepth 100000 in
theorem mkB_spec (k : Int) (l : List Int) : Fun Tryd.prog 67 [.v (.int .i64 k), .sl 1 (encI l)] (.fn 68 [.at_ [.v (.int .i64 k)], .at_ [.sl 1 (encI l)]]) := by
  refine Fun.enterF (n := 6) (rs := [.tmp 4]) Tryd.func67 rfl Tryd.ntmps67 Tryd.results67 rfl (fun w F => ?_); refine TC.seq ?_; refine TC.region ?_; refine TL.box rfl (.one rfl) rfl (fun g2 => ?_); refine TL.box rfl (.one rfl) rfl (fun g3 => ?_); refine TL.run1 (pure_assign rfl) rfl ?_; refine TL.nil' ?_; refine TC.seq ?_; refine TC.region ?_; refine TL.run1 (pure_makeFunc (.cons rfl (.cons rfl .nil))) rfl ?_; refine TL.run1 (pure_assign rfl) rfl ?_; refine TL.nil' ?_; refine TC.ret ?_
  exact retF1 (.inl rfl) rfl (.fnL (.cons (.boxS (by repeat (first | exact List.Mem.head _ | apply List.Mem.tail)) (List.cons_ne_nil _ _)) (.cons (.boxS (by repeat (first | exact List.Mem.head _ | apply List.Mem.tail)) (List.cons_ne_nil _ _)) .nil)))
set_option maxRecDepth 100000 in
theorem rA_spec (c b : List Int) (i : Nat) (k : Int) (l : List Int) (hi : i + 1 < c.length) (hl : l.length ≤ 1000000) (hc : c.length ≤ 1000000001) : Fun Tryd.prog 65 [.sl 3 (encK c b), .v (.int .i64 i), .at_ [.v (.int .i64 k)], .at_ [.sl 1 (encI l)]] (.tup [.v (.int .i64 k), .v (.bool (decide (iAt c i ∈ l)))]) := by
  refine Fun.enter (n := 15) (rs := [.tmp 6, .tmp 7]) Tryd.func65 rfl Tryd.ntmps65 Tryd.results65 rfl (fun w F => ?_)
  have hkl := encK_len c b
  have hrow : (encK c b)[(((i : Nat) : Int) : Int).toNat]? = some [.v (.int .i64 (iAt c ((i : Nat) : Int))), .v (.int .i64 (iAt b ((i : Nat) : Int))), .v (.int .i64 (iAt b ((i + 1 : Nat) : Int)))] := by (rw [show (((i : Nat) : Int) : Int).toNat = i by omega]; exact encK_get c b (i) (by omega))
  refine TC.seq ?_; refine TC.region ?_; (iterate 2 refine TL.run1 (pure_assign rfl) rfl ?_); refine TL.nil' ?_; refine TC.seq ?_; refine TC.draw Ty.follows (by kernel_rfl) ?_; refine TD.run1 (pure_load1 Ty.one3 rfl) rfl ?_; (iterate 2 refine TD.run1 (pure_move rfl) rfl ?_); refine TD.run1 (pure_indexAddr Ty.sl62 rfl rfl (by omega) hrow (List.cons_ne_nil _ _)) rfl ?_; refine TD.run1 (pure_load Ty.agg77 rfl (.succ (.succ (.succ (.zero _))))) rfl ?_; refine TD.run1 (pure_load1 Ty.one35 rfl) rfl ?_; refine TD.run1 (pure_call (is_spec _ _ _ l hl) (.cons rfl (.cons rfl .nil)) Tryd.call66) rfl ?_; (iterate 2 refine TD.run1 (pure_assign rfl) rfl ?_); refine TD.nil' ?_; refine TC.ret ?_
  exact ret2 (.inl rfl) rfl rfl rfl
set_option maxRecDepth 100000 in
theorem rB_spec (c b : List Int) (i : Nat) (k : Int) (l : List Int) (hi : i + 1 < c.length) (hl : l.length ≤ 1000000) (hc : c.length ≤ 1000000001) : Fun Tryd.prog 68 [.sl 3 (encK c b), .v (.int .i64 i), .at_ [.v (.int .i64 k)], .at_ [.sl 1 (encI l)]] (.tup [.v (.int .i64 k), .v (.bool (decide (iAt c ((i : Int) + 1) ∈ l)))]) := by
  refine Fun.enter (n := 16) (rs := [.tmp 6, .tmp 7]) Tryd.func68 rfl Tryd.ntmps68 Tryd.results68 rfl (fun w F => ?_)
  have hkl := encK_len c b
  have hrow : (encK c b)[(((i : Nat) : Int) + 1 : Int).toNat]? = some [.v (.int .i64 (iAt c (((i + 1) : Nat) : Int))), .v (.int .i64 (iAt b (((i + 1) : Nat) : Int))), .v (.int .i64 (iAt b (((i + 1) + 1 : Nat) : Int)))] := by (rw [show (((i : Nat) : Int) + 1 : Int).toNat = (i + 1) by omega]; exact encK_get c b ((i + 1)) (by omega))
  refine TC.seq ?_; refine TC.region ?_; (iterate 2 refine TL.run1 (pure_assign rfl) rfl ?_); refine TL.nil' ?_; refine TC.seq ?_; refine TC.draw Ty.follows (by kernel_rfl) ?_; refine TD.run1 (pure_load1 Ty.one3 rfl) rfl ?_; (iterate 2 refine TD.run1 (pure_move rfl) rfl ?_); refine TD.run1 (pure_add rfl rfl (mkI64 (by omega) (by omega))) rfl ?_; refine TD.run1 (pure_indexAddr Ty.sl62 rfl rfl (by omega) hrow (List.cons_ne_nil _ _)) rfl ?_; refine TD.run1 (pure_load Ty.agg77 rfl (.succ (.succ (.succ (.zero _))))) rfl ?_; refine TD.run1 (pure_load1 Ty.one35 rfl) rfl ?_; refine TD.run1 (pure_call (is_spec _ _ _ l hl) (.cons rfl (.cons rfl .nil)) Tryd.call66) rfl ?_; (iterate 2 refine TD.run1 (pure_assign rfl) rfl ?_); refine TD.nil' ?_; refine TC.ret ?_
  exact ret2 (.inl rfl) rfl rfl (by rw [show (((i + 1 : Nat)) : Int) = (i : Int) + 1 by omega])
set_option maxRecDepth 100000 in
theorem rC_spec (c b : List Int) (i : Nat) (hi : i + 1 < c.length) (hc : c.length ≤ 1000000001) : Fun Tryd.prog 69 [.sl 3 (encK c b), .v (.int .i64 i)] (.tup [.v (.int .i64 1), .v (.bool (decide (SpP c i)))]) := by
  refine Fun.enter (n := 34) (rs := [.tmp 4, .tmp 5]) Tryd.func69 rfl Tryd.ntmps69 Tryd.results69 rfl (fun w F => ?_)
  have hkl := encK_len c b
  have hrow : (encK c b)[(((i : Nat) : Int) : Int).toNat]? = some [.v (.int .i64 (iAt c ((i : Nat) : Int))), .v (.int .i64 (iAt b ((i : Nat) : Int))), .v (.int .i64 (iAt b ((i + 1 : Nat) : Int)))] := by (rw [show (((i : Nat) : Int) : Int).toNat = i by omega]; exact encK_get c b (i) (by omega))
  have hrowp : (encK c b)[(((i : Nat) : Int) + 1 : Int).toNat]? = some [.v (.int .i64 (iAt c (((i + 1) : Nat) : Int))), .v (.int .i64 (iAt b (((i + 1) : Nat) : Int))), .v (.int .i64 (iAt b (((i + 1) + 1 : Nat) : Int)))] := by (rw [show (((i : Nat) : Int) + 1 : Int).toNat = (i + 1) by omega]; exact encK_get c b ((i + 1)) (by omega))
  have hcast : (((i + 1 : Nat)) : Int) = (i : Int) + 1 := by omega
  have hneg : (i : Int) = 0 → atI c ((i : Int) - 1) = -1 := fun h => atI_out (.inl (by omega))
  have hat : 0 < (i : Int) → atI c ((i : Int) - 1) = iAt c ((i : Int) - 1) := fun h => atI_in (by omega) (by omega)
  rw [hcast] at hrowp
  refine TC.seq ?_; refine TC.region ?_; (iterate 2 refine TL.run1 (pure_assign rfl) rfl ?_); refine TL.nil' ?_; refine TC.seq ?_; refine TC.region ?_; refine TL.run1 (pure_move rfl) rfl ?_; refine TL.run1 (pure_gtr rfl rfl) rfl ?_; refine TL.run1 (pure_move rfl) rfl ?_; refine TL.splitP 8 rfl (fun hg8 => ?_) (fun hg8 => ?_)
  · try dsimp only at hg8
    have hi0 : 0 < i := by (first | omega | (have h := hg8; simp only [decide_eq_true_eq] at h; omega))
    have hrowm : (encK c b)[(((i : Nat) : Int) - 1 : Int).toNat]? = some [.v (.int .i64 (iAt c (((i - 1) : Nat) : Int))), .v (.int .i64 (iAt b (((i - 1) : Nat) : Int))), .v (.int .i64 (iAt b (((i - 1) + 1 : Nat) : Int)))] := by (rw [show (((i : Nat) : Int) - 1 : Int).toNat = (i - 1) by omega]; exact encK_get c b ((i - 1)) (by omega))
    have hcm : (((i - 1 : Nat)) : Int) = (i : Int) - 1 := by omega
    rw [hcm] at hrowm
    have hat2 := hat (by omega)
    (iterate 2 refine TL.runG rfl rfl (pure_move rfl) rfl ?_); refine TL.runG rfl rfl (pure_indexAddr Ty.sl62 rfl rfl (by omega) hrow (List.cons_ne_nil _ _)) rfl ?_; refine TL.runG rfl rfl (pure_load Ty.agg77 rfl (.succ (.succ (.succ (.zero _))))) rfl ?_; refine TL.runG rfl rfl (pure_buildSlice (xs := [.const (.int .i64 12)]) Ty.app35 (by decide) rfl rfl (.cons rfl (.one rfl) rfl .nil)) rfl ?_; refine TL.runG rfl rfl (pure_call (is_spec _ _ _ [12] (by decide)) (.cons rfl (.cons rfl .nil)) Tryd.call66) rfl ?_; refine TL.run1 (pure_pick_true rfl rfl) rfl ?_; refine TL.run1 (pure_move rfl) rfl ?_; refine TL.splitP 16 rfl (fun hg16 => ?_) (fun hg16 => ?_)
    · try dsimp only at hg16
      (iterate 2 refine TL.runG rfl rfl (pure_move rfl) rfl ?_); refine TL.runG rfl rfl (pure_add rfl rfl (mkI64 (by omega) (by omega))) rfl ?_; refine TL.runG rfl rfl (pure_indexAddr Ty.sl62 rfl rfl (by omega) hrowp (List.cons_ne_nil _ _)) rfl ?_; refine TL.runG rfl rfl (pure_load Ty.agg77 rfl (.succ (.succ (.succ (.zero _))))) rfl ?_; refine TL.runG rfl rfl (pure_buildSlice (xs := [.const (.int .i64 5)]) Ty.app35 (by decide) rfl rfl (.cons rfl (.one rfl) rfl .nil)) rfl ?_; refine TL.runG rfl rfl (pure_call (is_spec _ _ _ [5] (by decide)) (.cons rfl (.cons rfl .nil)) Tryd.call66) rfl ?_; refine TL.run1 (pure_pick_true rfl rfl) rfl ?_; refine TL.run1 (pure_move rfl) rfl ?_; refine TL.splitP 25 rfl (fun hg25 => ?_) (fun hg25 => ?_)
      · try dsimp only at hg25
        (iterate 2 refine TL.runG rfl rfl (pure_move rfl) rfl ?_); refine TL.runG rfl rfl (pure_sub rfl rfl (mkI64 (by omega) (by omega))) rfl ?_; refine TL.runG rfl rfl (pure_indexAddr Ty.sl62 rfl rfl (by omega) hrowm (List.cons_ne_nil _ _)) rfl ?_; refine TL.runG rfl rfl (pure_load Ty.agg77 rfl (.succ (.succ (.succ (.zero _))))) rfl ?_; refine TL.runG rfl rfl (pure_buildSlice (xs := [.const (.int .i64 5), .const (.int .i64 6)]) Ty.app35 (by decide) rfl rfl (.cons rfl (.one rfl) rfl (.cons rfl (.one rfl) rfl .nil))) rfl ?_; refine TL.runG rfl rfl (pure_call (is_spec _ _ _ [5, 6] (by decide)) (.cons rfl (.cons rfl .nil)) Tryd.call66) rfl ?_; refine TL.run1 (pure_pick_true rfl rfl) rfl ?_; (iterate 2 refine TL.run1 (pure_assign rfl) rfl ?_); refine TL.nil' ?_; refine TC.ret ?_
        exact ret2 (.inl rfl) rfl rfl (by congr 5; first | (exact (decide_eq_false (fun h => by (obtain ⟨_, _, h⟩ := h; omega))).symm) | (rw [eq_comm, decide_eq_true_eq]; unfold SpP; simp only [List.mem_cons, List.mem_nil_iff, or_false, decide_eq_true_eq] at *; omega) | (rw [eq_comm, decide_eq_false_iff_not]; unfold SpP; simp only [List.mem_cons, List.mem_nil_iff, or_false, decide_eq_true_eq] at *; omega) | (rw [decide_eq_decide]; unfold SpP; simp only [List.mem_cons, List.mem_nil_iff, or_false, decide_eq_true_eq] at *; omega))
      · try dsimp only at hg25
        (iterate 7 refine TL.passG rfl rfl rfl rfl ?_); refine TL.run1 (pure_pick_false rfl rfl) rfl ?_; (iterate 2 refine TL.run1 (pure_assign rfl) rfl ?_); refine TL.nil' ?_; refine TC.ret ?_
        exact ret2 (.inl rfl) rfl rfl (by congr 5; first | (exact (decide_eq_false (fun h => by (obtain ⟨_, _, h⟩ := h; omega))).symm) | (rw [eq_comm, decide_eq_true_eq]; unfold SpP; simp only [List.mem_cons, List.mem_nil_iff, or_false, decide_eq_true_eq] at *; omega) | (rw [eq_comm, decide_eq_false_iff_not]; unfold SpP; simp only [List.mem_cons, List.mem_nil_iff, or_false, decide_eq_true_eq] at *; omega) | (rw [decide_eq_decide]; unfold SpP; simp only [List.mem_cons, List.mem_nil_iff, or_false, decide_eq_true_eq] at *; omega))
    · try dsimp only at hg16
      (iterate 7 refine TL.passG rfl rfl rfl rfl ?_); refine TL.run1 (pure_pick_false rfl rfl) rfl ?_; refine TL.run1 (pure_move rfl) rfl ?_; (iterate 7 refine TL.passG rfl rfl rfl rfl ?_); refine TL.run1 (pure_pick_false rfl rfl) rfl ?_; (iterate 2 refine TL.run1 (pure_assign rfl) rfl ?_); refine TL.nil' ?_; refine TC.ret ?_
      exact ret2 (.inl rfl) rfl rfl (by congr 5; first | (exact (decide_eq_false (fun h => by (obtain ⟨_, _, h⟩ := h; omega))).symm) | (rw [eq_comm, decide_eq_true_eq]; unfold SpP; simp only [List.mem_cons, List.mem_nil_iff, or_false, decide_eq_true_eq] at *; omega) | (rw [eq_comm, decide_eq_false_iff_not]; unfold SpP; simp only [List.mem_cons, List.mem_nil_iff, or_false, decide_eq_true_eq] at *; omega) | (rw [decide_eq_decide]; unfold SpP; simp only [List.mem_cons, List.mem_nil_iff, or_false, decide_eq_true_eq] at *; omega))
  · try dsimp only at hg8
    have hi0 : (i : Int) = 0 := by (first | omega | (have h := hg8; simp only [decide_eq_true_eq, decide_eq_false_iff_not] at h; omega))
    have hne2 := hneg hi0
    (iterate 6 refine TL.passG rfl rfl rfl rfl ?_); refine TL.run1 (pure_pick_false rfl rfl) rfl ?_; refine TL.run1 (pure_move rfl) rfl ?_; (iterate 7 refine TL.passG rfl rfl rfl rfl ?_); refine TL.run1 (pure_pick_false rfl rfl) rfl ?_; refine TL.run1 (pure_move rfl) rfl ?_; (iterate 7 refine TL.passG rfl rfl rfl rfl ?_); refine TL.run1 (pure_pick_false rfl rfl) rfl ?_; (iterate 2 refine TL.run1 (pure_assign rfl) rfl ?_); refine TL.nil' ?_; refine TC.ret ?_
    exact ret2 (.inl rfl) rfl rfl (by congr 5; first | (exact (decide_eq_false (fun h => by (obtain ⟨_, _, h⟩ := h; omega))).symm) | (rw [eq_comm, decide_eq_true_eq]; unfold SpP; simp only [List.mem_cons, List.mem_nil_iff, or_false, decide_eq_true_eq] at *; omega) | (rw [eq_comm, decide_eq_false_iff_not]; unfold SpP; simp only [List.mem_cons, List.mem_nil_iff, or_false, decide_eq_true_eq] at *; omega) | (rw [decide_eq_decide]; unfold SpP; simp only [List.mem_cons, List.mem_nil_iff, or_false, decide_eq_true_eq] at *; omega))

theorem rule_spec (c b : List Int) (i j : Nat) (hj : j < 12) (hi : i + 1 < c.length) (hc : c.length ≤ 1000000001) : Fun Tryd.prog (rfN (rAt j).which) ([.sl 3 (encK c b), .v (.int .i64 i)] ++ rcaps (rAt j)) (.tup [.v (.int .i64 (rAt j).kind), .v (.bool (decide (rapP c i (rAt j))))]) := by
  obtain ⟨h1, h2, h3⟩ := rt_which j hj
  generalize rAt j = r at h1 h2 h3
  obtain ⟨k, w, l⟩ := r
  dsimp only at h1 h2 h3
  unfold rfN rcaps rapP
  dsimp only
  match w, h1 with
  | 0, _ => exact rA_spec c b i k l hi (by omega) hc
  | 1, _ => exact rB_spec c b i k l hi (by omega) hc
  | 2, _ => rw [h3 rfl]; exact rC_spec c b i hi hc
theorem rule_call (j : Nat) (hj : j < 12) : ∀ (as0 : Array Value) (w : World), (callFunc (rfN (rAt j).which) as0).run Tryd.prog w = .ok (.enter (rfN (rAt j).which) as0) w := by
  obtain ⟨h1, _, _⟩ := rt_which j hj
  generalize (rAt j).which = w at h1
  match w, h1 with
  | 0, _ => exact Tryd.call65
  | 1, _ => exact Tryd.call68
  | 2, _ => exact Tryd.call69
set_option maxRecDepth 100000 in
theorem rules_spec  : Fun Tryd.prog 38 [] (.sl 1 rulesD) := by
  refine Fun.enter (n := 37) (rs := [.tmp 0]) Tryd.func38 rfl Tryd.ntmps38 Tryd.results38 rfl (fun w F => ?_); refine TC.seq ?_; refine TC.region ?_; refine TL.run1 (pure_assign rfl) rfl ?_; refine TL.nil' ?_; refine TC.seq ?_; refine TC.region ?_; refine TL.run1 (pure_assign rfl) rfl ?_; refine TL.nil' ?_; refine TC.seq ?_; refine TC.region ?_; refine TL.run1 (pure_assign rfl) rfl ?_; refine TL.nil' ?_; refine TC.seq ?_; refine TC.region ?_; refine TL.run1 (pure_move rfl) rfl ?_; refine TL.run1 (pure_buildSlice (xs := [.const (.int .i64 1)]) Ty.app35 (by decide) rfl rfl (.cons rfl (.one rfl) rfl .nil)) rfl ?_; refine TL.run1 (pure_callv rfl (mkA_spec 2 [1]) (.cons rfl (.cons rfl .nil)) Tryd.call64) rfl ?_; refine TL.run1 (pure_move rfl) rfl ?_; refine TL.run1 (pure_buildSlice (xs := [.const (.int .i64 1), .const (.int .i64 2)]) Ty.app35 (by decide) rfl rfl (.cons rfl (.one rfl) rfl (.cons rfl (.one rfl) rfl .nil))) rfl ?_; refine TL.run1 (pure_callv rfl (mkB_spec 0 [1, 2]) (.cons rfl (.cons rfl .nil)) Tryd.call67) rfl ?_; refine TL.run1 (pure_move rfl) rfl ?_; refine TL.run1 (pure_buildSlice (xs := [.const (.int .i64 3)]) Ty.app35 (by decide) rfl rfl (.cons rfl (.one rfl) rfl .nil)) rfl ?_; refine TL.run1 (pure_callv rfl (mkA_spec 0 [3]) (.cons rfl (.cons rfl .nil)) Tryd.call64) rfl ?_; refine TL.run1 (pure_move rfl) rfl ?_; refine TL.run1 (pure_buildSlice (xs := [.const (.int .i64 3)]) Ty.app35 (by decide) rfl rfl (.cons rfl (.one rfl) rfl .nil)) rfl ?_; refine TL.run1 (pure_callv rfl (mkB_spec 0 [3]) (.cons rfl (.cons rfl .nil)) Tryd.call67) rfl ?_; refine TL.run1 (pure_move rfl) rfl ?_; refine TL.run1 (pure_buildSlice (xs := [.const (.int .i64 2)]) Ty.app35 (by decide) rfl rfl (.cons rfl (.one rfl) rfl .nil)) rfl ?_; refine TL.run1 (pure_callv rfl (mkA_spec 1 [2]) (.cons rfl (.cons rfl .nil)) Tryd.call64) rfl ?_; refine TL.run1 (pure_move rfl) rfl ?_; refine TL.run1 (pure_buildSlice (xs := [.const (.int .i64 4)]) Ty.app35 (by decide) rfl rfl (.cons rfl (.one rfl) rfl .nil)) rfl ?_; refine TL.run1 (pure_callv rfl (mkA_spec 3 [4]) (.cons rfl (.cons rfl .nil)) Tryd.call64) rfl ?_; refine TL.run1 (pure_move rfl) rfl ?_; refine TL.run1 (pure_buildSlice (xs := [.const (.int .i64 8)]) Ty.app35 (by decide) rfl rfl (.cons rfl (.one rfl) rfl .nil)) rfl ?_; refine TL.run1 (pure_callv rfl (mkA_spec 0 [8]) (.cons rfl (.cons rfl .nil)) Tryd.call64) rfl ?_; refine TL.run1 (pure_move rfl) rfl ?_; refine TL.run1 (pure_buildSlice (xs := [.const (.int .i64 4), .const (.int .i64 9), .const (.int .i64 10), .const (.int .i64 11), .const (.int .i64 12), .const (.int .i64 13)]) Ty.app35 (by decide) rfl rfl (.cons rfl (.one rfl) rfl (.cons rfl (.one rfl) rfl (.cons rfl (.one rfl) rfl (.cons rfl (.one rfl) rfl (.cons rfl (.one rfl) rfl (.cons rfl (.one rfl) rfl .nil))))))) rfl ?_; refine TL.run1 (pure_callv rfl (mkB_spec 0 [4, 9, 10, 11, 12, 13]) (.cons rfl (.cons rfl .nil)) Tryd.call67) rfl ?_; refine TL.run1 (pure_move rfl) rfl ?_; refine TL.run1 (pure_buildSlice (xs := [.const (.int .i64 13)]) Ty.app35 (by decide) rfl rfl (.cons rfl (.one rfl) rfl .nil)) rfl ?_; refine TL.run1 (pure_callv rfl (mkA_spec 1 [13]) (.cons rfl (.cons rfl .nil)) Tryd.call64) rfl ?_; refine TL.run1 (pure_move rfl) rfl ?_; refine TL.run1 (pure_buildSlice (xs := [.const (.int .i64 7)]) Ty.app35 (by decide) rfl rfl (.cons rfl (.one rfl) rfl .nil)) rfl ?_; refine TL.run1 (pure_callv rfl (mkA_spec 1 [7]) (.cons rfl (.cons rfl .nil)) Tryd.call64) rfl ?_; refine TL.run1 (pure_move rfl) rfl ?_; refine TL.run1 (pure_buildSlice (xs := [.const (.int .i64 7)]) Ty.app35 (by decide) rfl rfl (.cons rfl (.one rfl) rfl .nil)) rfl ?_; refine TL.run1 (pure_callv rfl (mkB_spec 1 [7]) (.cons rfl (.cons rfl .nil)) Tryd.call67) rfl ?_; refine TL.run1 (pure_buildSlice (xs := [.tmp 5, .tmp 8, .tmp 11, .tmp 14, .tmp 17, .tmp 20, .tmp 23, .tmp 26, .tmp 29, .func 69, .tmp 32, .tmp 35]) Ty.app72 (by decide) rfl rfl (.cons rfl (.one rfl) rfl (.cons rfl (.one rfl) rfl (.cons rfl (.one rfl) rfl (.cons rfl (.one rfl) rfl (.cons rfl (.one rfl) rfl (.cons rfl (.one rfl) rfl (.cons rfl (.one rfl) rfl (.cons rfl (.one rfl) rfl (.cons rfl (.one rfl) rfl (.cons rfl (.one rfl) rfl (.cons rfl (.one rfl) rfl (.cons rfl (.one rfl) rfl .nil))))))))))))) rfl ?_; refine TL.run1 (pure_assign rfl) rfl ?_; refine TL.nil' ?_; refine TC.ret ?_
  exact ret_sl rfl rfl
end Go.Ob
