import Derived.Test.YtlhjcleejolbiaaZk
set_option linter.unusedVariables false
set_option linter.unusedSimpArgs false
set_option linter.unnecessarySimpa false
set_option linter.unusedVariables false
set_option linter.unusedSimpArgs false
namespace Go.Ob
open Go.Proofs
def rowsY (rs : List RowD) (vs : List Value) (f : Nat → RowD) (T i : Nat) : List (List D) := (List.range rs.length).map fun (j : Nat) => if T ≤ j ∧ j < i then encR (f j) else encRv (rAt rs (j : Nat)) (vAt vs j)
def tabY (rs : List RowD) (f : Nat → RowD) (T B : Nat) : List RowD := (List.range rs.length).map fun (j : Nat) => if T ≤ j ∧ j < B then f j else rAt rs (j : Nat)
theorem rowsY_len (rs : List RowD) (vs : List Value) (f : Nat → RowD) (T i : Nat) : (rowsY rs vs f T i).length = rs.length := by simp [rowsY]
theorem rowsY_at (rs : List RowD) (vs : List Value) (f : Nat → RowD) (T i j : Nat) (h : j < rs.length) (hj : ¬ (T ≤ j ∧ j < i)) : (rowsY rs vs f T i)[j]? = some (encRv (rAt rs (j : Nat)) (vAt vs j)) := by
  simp only [rowsY, List.getElem?_map, List.getElem?_range h, Option.map_some]
  rw [if_neg hj]
theorem rowsY_step (rs : List RowD) (vs : List Value) (f : Nat → RowD) (T i : Nat) (h : i < rs.length) (ht : T ≤ i) : rowsY rs vs f T (i + 1) = (rowsY rs vs f T i).set i (encR (f i)) := by
  apply List.ext_getElem (by simp [rowsY])
  intro j h1 h2
  rw [List.getElem_set]
  by_cases he : i = j
  · subst he
    rw [if_pos rfl]
    simp [rowsY, ht]
  · rw [if_neg he]
    simp only [rowsY, List.getElem_map, List.getElem_range]
    by_cases hc : T ≤ j ∧ j < i
    · rw [if_pos hc, if_pos ⟨hc.1, by omega⟩]
    · rw [if_neg hc, if_neg (fun h => hc ⟨h.1, by omega⟩)]
theorem rowsY_start (rs : List RowD) (vs : List Value) (f : Nat → RowD) (i : Nat) (hv : vs.length = rs.length) : rowsY rs vs f i i = outX rs vs := by
  apply List.ext_getElem (by simp [rowsY, outX, hv])
  intro j h1 h2
  have hj : j < rs.length := by rw [rowsY_len] at h1; exact h1
  simp only [rowsY, outX, List.getElem_map, List.getElem_range, List.getElem_zipWith]
  rw [if_neg (by omega)]
  simp [rAt, vAt, hj, show j < vs.length by omega]
theorem tabY_len (rs : List RowD) (f : Nat → RowD) (T B : Nat) : (tabY rs f T B).length = rs.length := by simp [tabY]
theorem rowsY_frz {M : Blk → Prop} (rs rs' : List RowD) (vs : List Value) (f : Nat → RowD) (T B : Nat) (v : Value) (hM : M (.row v 36 6 (rowsY rs vs f T B))) (hl : rs'.length = rs.length) (hh : ∀ (j : Nat) (x : Value), encRv (rAt rs' (j : Nat)) x = encRv (rAt rs (j : Nat)) x)
    (hI : ∀ j : Nat, j < rs.length → (j < T ∨ B ≤ j) → M (.row (vAt vs j) 74 7 (encCs (rAt rs' (j : Nat)).cells))) : FrzR M (.v v) (.sl 6 (encRs (tabY rs' f T B))) := by
  refine FrzR.rows (es := 6) hM (by decide) (by rw [rowsY_len, encRs_len, tabY_len, hl]) (fun x hx => ?_) (encRs_each _) fun i r x x' d d' h1 h2 h3 h4 => ?_
  · simp only [rowsY, List.mem_map] at hx
    obtain ⟨j, _, rfl⟩ := hx
    split <;> rfl
  · have hi : i < rs.length := by
      have := (List.getElem?_eq_some_iff.1 h1).1
      rwa [rowsY_len] at this
    simp only [rowsY, encRs, tabY, List.getElem?_map, List.getElem?_range hi, List.getElem?_range (show i < rs'.length by omega), Option.map_some, Option.some.injEq] at h1 h2
    by_cases hc : T ≤ i ∧ i < B
    · rw [if_pos hc] at h1
      rw [if_pos hc] at h2
      subst h1; subst h2
      rw [h3] at h4; cases h4; exact .same _
    · rw [if_neg hc, ← hh] at h1
      rw [if_neg hc] at h2
      subst h1; subst h2
      match r with
      | 0 => cases h3; cases h4; exact .same _
      | 1 => cases h3; cases h4; exact .same _
      | 2 => cases h3; cases h4; exact .same _
      | 3 => cases h3; cases h4; exact .same _
      | 4 => cases h3; cases h4; exact .same _
      | 5 =>
        cases h3; cases h4
        exact .rowS (hI i hi (by omega)) (by decide) (encCs_each _)
      | r + 6 => simp [encRv] at h3
def ClosedR (rs : List RowD) (a : A4) (i : Int) : Prop := ∀ k, Val rs i k → (spN rs i k).2 ≤ a.l ∨ a.r ≤ (spN rs i k).1 ∨ (a.l ≤ (spN rs i k).1 ∧ (spN rs i k).2 ≤ a.r)
def keepN (a : A4) (s : Int × Int) : Prop := s.1 < a.l ∨ s.2 > a.r ∨ s.1 = s.2
instance (a : A4) (s : Int × Int) : Decidable (keepN a s) := by unfold keepN; infer_instance
def endA (a : A4) (e : Int) : Int := max a.l (min a.r e)
theorem row_cell {rs : List RowD} {a : A4} {i : Int} (hcl : ClosedR rs a i) (hi : 0 ≤ i) (hi2 : i < rs.length) (hab : a.l < a.r) (k : Nat) (hk : k < (rAt rs i).cells.length) :
    (keepN a (sAt (spansR (rAt rs i)) (k : Nat)) → endA a (spTo (rAt rs i) ((k : Int) + 1)) = endA a (spTo (rAt rs i) k) ∧ (spTo (rAt rs i) ((k : Int) + 1) ≤ a.l ↔ spTo (rAt rs i) k ≤ a.l) ∧ mrgTo a i (rAt rs i) (k + 1) = mrgTo a i (rAt rs i) k ++ [cAt (rAt rs i).cells (k : Nat)] ∧ ¬ FillC rs a i k) ∧
    (¬ keepN a (sAt (spansR (rAt rs i)) (k : Nat)) → endA a (spTo (rAt rs i) ((k : Int) + 1)) = (sAt (spansR (rAt rs i)) (k : Nat)).2 ∧ ¬ spTo (rAt rs i) ((k : Int) + 1) ≤ a.l ∧ (spTo (rAt rs i) k ≤ a.l → mrgTo a i (rAt rs i) (k + 1) = mrgTo a i (rAt rs i) k ++ [mrgC a i (cAt (rAt rs i).cells (k : Nat))]) ∧
      (¬ spTo (rAt rs i) k ≤ a.l → mrgTo a i (rAt rs i) (k + 1) = mrgTo a i (rAt rs i) k) ∧ (FillC rs a i k ↔ (i ≠ a.t ∨ ¬ spTo (rAt rs i) k ≤ a.l) ∧ 0 < (cAt (rAt rs i).cells (k : Nat)).flow.length)) := by
  have hs := sAt_eq (rAt rs i) (k : Int) (by omega) (by omega)
  have hm := spTo_mono1 (rAt rs i) (k : Int) (by omega) (by omega)
  have hg := sp_range (rAt rs i) (k : Int) (by omega) (by omega)
  have hval : spTo (rAt rs i) k ≠ spTo (rAt rs i) ((k : Int) + 1) → Val rs i k := fun hne => ⟨hi, hi2, by omega, by (show (k : Int) < ((rAt rs i).cells.length : Int)); omega, by unfold spN; rw [hs]; exact hne⟩
  have hclk : spTo (rAt rs i) k ≠ spTo (rAt rs i) ((k : Int) + 1) → spTo (rAt rs i) ((k : Int) + 1) ≤ a.l ∨ a.r ≤ spTo (rAt rs i) k ∨ (a.l ≤ spTo (rAt rs i) k ∧ spTo (rAt rs i) ((k : Int) + 1) ≤ a.r) := fun hne => by
    have := hcl k (hval hne)
    unfold spN at this
    rwa [hs] at this
  unfold keepN FillC
  rw [mrgTo, mrgK]
  unfold spN
  rw [hs]
  dsimp only
  refine ⟨fun h => ⟨?_, ?_, ?_, ?_⟩, fun h => ⟨?_, ?_, ?_, ?_, ?_⟩⟩
  · unfold endA
    by_cases hne : spTo (rAt rs i) k = spTo (rAt rs i) ((k : Int) + 1)
    · rw [hne]
    · have := hclk hne; omega
  · by_cases hne : spTo (rAt rs i) k = spTo (rAt rs i) ((k : Int) + 1)
    · rw [hne]
    · have := hclk hne; omega
  · rw [if_pos]
    by_cases hne : spTo (rAt rs i) k = spTo (rAt rs i) ((k : Int) + 1)
    · exact .inr (.inr hne)
    · have := hclk hne; omega
  · rintro ⟨hv, h1, h2, _⟩
    have hne : spTo (rAt rs i) k ≠ spTo (rAt rs i) ((k : Int) + 1) := by have := hv.2.2.2.2; unfold spN at this; rwa [hs] at this
    have := hclk hne; omega
  · unfold endA; omega
  · omega
  · intro h1
    rw [if_neg (by omega), if_neg (by omega)]
  · intro h1
    rw [if_neg (by omega), if_pos (by omega), List.append_nil]
  · constructor
    · rintro ⟨hv, h1, h2, h3, h4⟩
      exact ⟨by omega, h3⟩
    · rintro ⟨h1, h2⟩
      exact ⟨hval (by omega), by omega, by omega, h2, by omega⟩
theorem row_full {a : A4} {e : Int} (hab : a.l < a.r) : (e ≤ a.l ∨ endA a e ≠ a.r) ↔ e < a.r := by unfold endA; omega
theorem mrgT_tab {rs : List RowD} {a : A4} {T B : Nat} (hT : a.t = (T : Int)) (hB : a.b = (B : Int)) (h : ¬ (a.b > a.t + 1 ∧ a.b < rs.length)) : tabY rs (fun j => mrgR a (j : Nat) (rAt rs (j : Nat))) T B = mrgT rs a := by
  apply List.ext_getElem (by simp [tabY, mrgT])
  intro j h1 h2
  have hj : j < rs.length := by rw [tabY_len] at h1; exact h1
  simp only [tabY, mrgT, List.getElem_map, List.getElem_range, mrgI]
  by_cases hc : T ≤ j ∧ j < B
  · rw [if_pos hc, if_pos (by omega)]
  · rw [if_neg hc, if_neg (by omega), if_neg (by omega)]
theorem mrgT_tab2 {rs : List RowD} {a : A4} {T B : Nat} (hT : a.t = (T : Int)) (hB : a.b = (B : Int)) (h : a.b > a.t + 1) (hl : B < rs.length) : tabY (rs.set B (fixR a (rAt rs (B : Nat)))) (fun j => mrgR a (j : Nat) (rAt rs (j : Nat))) T B = mrgT rs a := by
  apply List.ext_getElem (by simp [tabY, mrgT])
  intro j h1 h2
  have hj : j < rs.length := by rw [tabY_len, List.length_set] at h1; exact h1
  simp only [tabY, mrgT, List.getElem_map, List.getElem_range, mrgI]
  by_cases hc : T ≤ j ∧ j < B
  · rw [if_pos hc, if_pos (by omega)]
  · rw [if_neg hc, if_neg (by omega)]
    by_cases he : j = B
    · subst he
      rw [if_pos (by omega)]
      simp [rAt, hj]
    · rw [if_neg (by omega)]
      simp [rAt, hj, List.getElem_set, Ne.symm he]
theorem set_head (rs : List RowD) (B : Nat) (r : RowD) (hr : ∀ x, encRv r x = encRv (rAt rs (B : Nat)) x) (j : Nat) (x : Value) (hB : B < rs.length) : encRv (rAt (rs.set B r) (j : Nat)) x = encRv (rAt rs (j : Nat)) x := by
  by_cases he : j = B
  · subst he
    have e : rAt (rs.set j r) (j : Nat) = r := by simp [rAt, hB]
    rw [e, hr]
  · have e : rAt (rs.set B r) (j : Nat) = rAt rs (j : Nat) := by simp [rAt, List.getElem?_set, Ne.symm he]
    rw [e]
end Go.Ob
set_option linter.unusedVariables false
set_option linter.unusedSimpArgs false
namespace Go.Ob
open Go.Proofs
theorem mrgE_1 {rs : List RowD} {a : A4} (h : ¬ InsideA rs a) : mrgE rs a = 2 := by unfold mrgE; rw [if_pos h]
theorem mrgE_2 {rs : List RowD} {a : A4} (h : InsideA rs a) (h2 : covN rs a ≠ a) : mrgE rs a = 20 := by unfold mrgE; rw [if_neg (fun e => e h), if_pos (.inl h2)]
theorem mrgE_3 {rs : List RowD} {a : A4} (h : InsideA rs a) (h2 : ¬ FullA rs a) : mrgE rs a = 20 := by unfold mrgE; rw [if_neg (fun e => e h), if_pos (.inr h2)]
theorem mrgE_4 {rs : List RowD} {a : A4} (h : InsideA rs a) (h2 : covN rs a = a) (h3 : FullA rs a) (h4 : FillA rs a) : mrgE rs a = 38 := by unfold mrgE; rw [if_neg (fun e => e h), if_neg (by rintro (e | e); exact e h2; exact e h3), if_pos h4]
theorem mrgE_5 {rs : List RowD} {a : A4} (h : InsideA rs a) (h2 : covN rs a = a) (h3 : FullA rs a) (h4 : ¬ FillA rs a) : mrgE rs a = 0 := by unfold mrgE; rw [if_neg (fun e => e h), if_neg (by rintro (e | e); exact e h2; exact e h3), if_neg h4]
theorem mrgV_bad {rs : List RowD} {a : A4} (h : mrgE rs a ≠ 0) : mrgV rs a = [] := by unfold mrgV; rw [if_neg h]
theorem mrgV_ok {rs : List RowD} {a : A4} (h : mrgE rs a = 0) : mrgV rs a = mrgT rs a := by unfold mrgV; rw [if_pos h]
theorem encCs_snoc (l : List CellD) (c : CellD) : encCs (l ++ [c]) = encCs l ++ [encC c] := by simp [encCs]
theorem encCs_set (l : List CellD) (k : Nat) (c : CellD) : encCs (l.set k c) = (encCs l).set k (encC c) := by simp [encCs, List.map_set]
def FullTo (rs : List RowD) (a : A4) (i : Int) : Prop := ∀ j : Int, a.t ≤ j → j < i → a.r ≤ spTo (rAt rs j) (rAt rs j).cells.length
set_option maxHeartbeats 1000000 in
set_option maxRecDepth 100000 in
theorem GMerge_spec (I : List D → Prop) (hI : ∀ x, I x → Fun Try.prog 86 [.agg x] (.agg x)) (rs : List RowD) (hr : TabOk rs) (hl : rs.length ≤ 2000) (hB : TabB I rs) (hP : ∀ r ∈ rs, ∀ c ∈ r.cells, c.props.length ≤ 900) (a : A4) : Fun Try.prog 32 [.sl 6 (encRs rs), .agg [.v (.int .i64 a.t), .v (.int .i64 a.l), .v (.int .i64 a.b), .v (.int .i64 a.r)]] (.tup [.sl 6 (encRs (mrgV rs a)), .v (.int .i64 (mrgE rs a))]) := by
  refine Fun.enterF (n := 199) (rs := [.tmp 4, .tmp 5]) Try.func32 rfl Try.ntmps32 Try.results32 rfl (fun w F => ?_)
  have hk := encRs_len rs
  refine TC.seq ?_
  refine TC.region ?_
  refine TL.box rfl (.agg _) rfl (fun g3 => ?_)
  refine TL.run1 (pure_assign rfl) rfl ?_
  refine TL.run1 (pure_assign rfl) rfl ?_
  refine TL.nil' ?_
  refine TC.seq ?_
  refine TC.freezeBox 3 (List.cons_ne_nil _ _) (.here _) rfl ?_
  refine TC.region ?_
  refine TL.run1 (pure_move rfl) rfl ?_
  first | refine TL.run1 (pure_load Ty.agg38 rfl (.succ (.succ (.succ (.succ (.zero _)))))) rfl ?_ | refine TL.run1 (pure_load_own Ty.agg38 rfl (by repeat (first | exact List.Mem.head _ | apply List.Mem.tail)) (by repeat (first | exact DropR.zero _ | apply DropR.succ)) (.succ (.succ (.succ (.succ (.zero _)))))) rfl ?_
  refine TL.run1 (pure_call (GCover_spec rs hr hl a) (.cons rfl (.cons rfl .nil)) Try.call20) rfl ?_
  refine TL.run1 (pure_move rfl) rfl ?_
  refine TL.run1 (pure_extract rfl rfl) rfl ?_
  refine TL.run1 (pure_extract rfl rfl) rfl ?_
  refine TL.alloc Ty.zero38 rfl (fun g6 => ?_)
  refine TL.store rfl rfl (.agg _) Try.sizeOf38 rfl (by repeat (first | exact UpdR.here _ | apply UpdR.there)) (by repeat (first | exact PutR.nil _ | apply PutR.here | apply PutR.skip)) ?_
  refine TL.run1 (pure_assign rfl) rfl ?_
  refine TL.nil' ?_
  refine TC.seq ?_
  refine TC.block ?_
  refine TC.seq ?_
  refine TC.freezeBox 6 (List.cons_ne_nil _ _) (.here _) rfl ?_
  refine TC.region ?_
  refine TL.run1 (pure_move rfl) rfl ?_
  refine TL.run1 (pure_neq rfl rfl) rfl ?_
  refine TL.run1 (pure_assign rfl) rfl ?_
  refine TL.nil' ?_
  first | refine TC.condD rfl (fun hc27 => ?_) (fun hc27 => ?_) | refine TC.condN rfl (fun hc27 => ?_) (fun hc27 => ?_) | refine TC.cond rfl (fun hc27 => ?_) (fun hc27 => ?_)
  · try dsimp only at hc27
    refine TC.seq ?_
    refine TC.region ?_
    refine TL.run1 (pure_move rfl) rfl ?_
    refine TL.run1 (pure_assign rfl) rfl ?_
    refine TL.le 4 rfl (Le.nil 6) ?_
    refine TL.run1 (pure_assign rfl) rfl ?_
    refine TL.nil' ?_
    refine TC.ret ?_
    refine block_ret ?_
    refine then_ret ?_
    have hnin : ¬ InsideA rs a := fun h => hc27 (by unfold covE; rw [if_pos h])
    have hE : mrgE rs a = covE rs a := by (rw [mrgE_1 hnin]; unfold covE; rw [if_neg hnin])
    rw [mrgV_bad (by rw [hE]; exact hc27), hE]
    exact retF2 (.inl rfl) rfl rfl (.tupL (.cons (.same _) (.cons (.same _) .nil)))
  · try dsimp only at hc27
    have hin : InsideA rs a := Decidable.not_not.1 (fun h => hc27 (by unfold covE; rw [if_neg h]; decide))
    have e1 : covV rs a = covN rs a := by (unfold covV; rw [if_pos hin])
    have hia := hin.inA
    have hb : 0 ≤ a.t ∧ a.t < a.b ∧ a.b ≤ rs.length ∧ 0 ≤ a.l ∧ a.l < a.r ∧ a.r ≤ 32 := by (unfold InsideA at hin; unfold InA at hia; omega)
    obtain ⟨b1, b2, b3, b4, b5, b6⟩ := hb
    rw [e1]
    refine TC.regionCut [32, 33, 34, 31] 31 (covN rs a ≠ a) ?_ ?_
    · skip
      first | refine TL.run1 (pure_load Ty.agg38 rfl (.succ (.succ (.succ (.succ (.zero _)))))) rfl ?_ | refine TL.run1 (pure_load_own Ty.agg38 rfl (by repeat (first | exact List.Mem.head _ | apply List.Mem.tail)) (by repeat (first | exact DropR.zero _ | apply DropR.succ)) (.succ (.succ (.succ (.succ (.zero _)))))) rfl ?_
      first | refine TL.run1 (pure_load Ty.agg38 rfl (.succ (.succ (.succ (.succ (.zero _)))))) rfl ?_ | refine TL.run1 (pure_load_own Ty.agg38 rfl (by repeat (first | exact List.Mem.head _ | apply List.Mem.tail)) (by repeat (first | exact DropR.zero _ | apply DropR.succ)) (.succ (.succ (.succ (.succ (.zero _)))))) rfl ?_
      refine TL.run1 (pure_neq_agg Ty.eq38 rfl rfl (.cons (.cons (.cons (.cons .nil)))) (.cons (.cons (.cons (.cons .nil)))) rfl rfl) rfl ?_
      refine TL.run1 (pure_assign rfl) rfl ?_
      refine TL.cutEnd (by repeat (first | exact Same.refl _ _ | refine Same.put rfl ?_)) rfl ?_
      cases hx : covN rs a; cases a; simp only [ne_eq, A4.mk.injEq]; grind
    first | refine TC.condD rfl (fun hc31 => ?_) (fun hc31 => ?_) | refine TC.condN rfl (fun hc31 => ?_) (fun hc31 => ?_) | refine TC.cond rfl (fun hc31 => ?_) (fun hc31 => ?_)
    · try dsimp only at hc31
      refine TC.seq ?_
      refine TC.region ?_
      refine TL.run1 (pure_assign rfl) rfl ?_
      refine TL.le 4 rfl (Le.nil 6) ?_
      refine TL.run1 (pure_assign rfl) rfl ?_
      refine TL.nil' ?_
      refine TC.ret ?_
      refine block_ret ?_
      refine then_ret ?_
      have hE := mrgE_2 hin hc31
      rw [mrgV_bad (by rw [hE]; decide), hE]
      exact retF2 (.inl rfl) rfl rfl (.tupL (.cons (.same _) (.cons (.same _) .nil)))
    · try dsimp only at hc31
      have hcv : covN rs a = a := Decidable.not_not.1 hc31
      have hclo : ClosedA (layRects rs) a := by (have := (covN_cov hia).closed; rwa [hcv] at this)
      obtain ⟨T, hT⟩ : ∃ T : Nat, a.t = (T : Int) := ⟨a.t.toNat, by omega⟩
      obtain ⟨B, hB2⟩ : ∃ B : Nat, a.b = (B : Int) := ⟨a.b.toNat, by omega⟩
      refine TC.skip ?_
      refine block_normal ?_
      refine then_normal ?_
      refine TC.seq ?_
      refine TC.region ?_
      refine TL.run1 (pure_move rfl) rfl ?_
      refine TL.callD (SplitR.none _) (copied_spec I hI rs hB hl) (.cons rfl .nil) Try.call44 (fun t ht => by cases ht; exact of_decide_eq_true rfl) ?_
      rintro r2 H2 ⟨v8, vs, rfl, hvl, rfl⟩
      simp only [List.append_nil]
      refine TL.run1 (pure_assign rfl) rfl ?_
      refine TL.nil' ?_
      refine TC.seq ?_
      refine TC.region ?_
      refine TL.run1 (pure_assign rfl) rfl ?_
      refine TL.nil' ?_
      refine TC.seq ?_
      refine TC.seq ?_
      rw [← rowsY_start rs vs (fun (j : Nat) => mrgR a (j : Nat) (rAt rs (j : Nat))) T hvl, inB_split rs vs T hvl]
      refine TC.perm (List.Perm.cons _ List.perm_append_comm) ?_
      refine TC.region ?_
      first | refine TL.run1 (pure_fieldAddr Ty.f38_0 rfl (.zero _) (List.cons_ne_nil _ _)) rfl ?_ | refine TL.run1 (pure_fieldAddr_own Ty.f38_0 rfl) rfl ?_
      first | refine TL.run1 (pure_load1 Ty.one3 rfl) rfl ?_ | refine TL.run1 (pure_load1_own Ty.one3 rfl (by repeat (first | exact List.Mem.head _ | apply List.Mem.tail)) (by repeat (first | exact DropR.zero _ | apply DropR.succ))) rfl ?_
      refine TL.run1 (pure_assign rfl) rfl ?_
      refine TL.nil' ?_
      refine TC.block ?_
      refine TC.loopX (X := Nat × Bool) (fun (i, F) => [(0, .sl 6 (encRs rs)), (3, .at_ [.v (.int .i64 a.t), .v (.int .i64 a.l), .v (.int .i64 a.b), .v (.int .i64 a.r)]), (8, .v v8), (9, .v (.bool F)), (10, .v (.int .i64 i))]) (fun (i, F) => (Blk.row v8 36 6 (rowsY rs vs (fun (j : Nat) => mrgR a (j : Nat) (rAt rs (j : Nat))) T i) :: (inB (rs.drop i) (vs.drop i) ++ inB (rs.take T) (vs.take T)))) (fun (i, F) => (T ≤ i) ∧ (i ≤ B) ∧ (F = true ↔ FillTo rs a (i : Nat) 0) ∧ (FullTo rs a (i : Nat))) (fun (i, F) => B - i) (T, false) ⟨by (try dsimp only); rw [← hT]; repeat (first | exact Agree.nil | refine Agree.cons rfl ?_), by (try dsimp only); repeat (first | exact List.nil_sublist _ | exact List.Sublist.refl _ | apply List.Sublist.cons_cons | apply List.Sublist.cons)⟩ ?_ ?_
      · skip
        exact ⟨Nat.le_refl _, by omega, by (rw [← hT]; exact ⟨fun h => (by cases h), fun h => absurd h (FillTo.zero rs a)⟩), fun j q1 q2 => by omega⟩
      rintro ⟨i, F⟩
      rintro ⟨h1, h2, hF, hfl⟩
      show TC _ _ _ (Env.of [(0, .sl 6 (encRs rs)), (3, .at_ [.v (.int .i64 a.t), .v (.int .i64 a.l), .v (.int .i64 a.b), .v (.int .i64 a.r)]), (8, .v v8), (9, .v (.bool F)), (10, .v (.int .i64 i))]) (Blk.row v8 36 6 (rowsY rs vs (fun (j : Nat) => mrgR a (j : Nat) (rAt rs (j : Nat))) T i) :: (inB (rs.drop i) (vs.drop i) ++ inB (rs.take T) (vs.take T)))
      refine TC.seq ?_
      refine TC.seq ?_
      refine TC.region ?_
      refine TL.run1 (pure_move rfl) rfl ?_
      first | refine TL.run1 (pure_fieldAddr Ty.f38_2 rfl (.succ (.succ (.zero _))) (List.cons_ne_nil _ _)) rfl ?_ | refine TL.run1 (pure_fieldAddr_own Ty.f38_2 rfl) rfl ?_
      first | refine TL.run1 (pure_load1 Ty.one3 rfl) rfl ?_ | refine TL.run1 (pure_load1_own Ty.one3 rfl (by repeat (first | exact List.Mem.head _ | apply List.Mem.tail)) (by repeat (first | exact DropR.zero _ | apply DropR.succ))) rfl ?_
      refine TL.run1 (pure_lss rfl rfl) rfl ?_
      refine TL.nil' ?_
      first | refine TC.condD rfl (fun hc42 => ?_) (fun hc42 => ?_) | refine TC.condN rfl (fun hc42 => ?_) (fun hc42 => ?_) | refine TC.cond rfl (fun hc42 => ?_) (fun hc42 => ?_)
      · try dsimp only at hc42
        have hiB : i < B := by omega
        have hil : i < rs.length := by omega
        have hrow := encRs_get rs (i : Int) (by omega) (by omega)
        have hro := hr.1 (rAt rs (i : Nat)) (rAt_mem rs (i : Int) (by omega) (by omega))
        have hrl := hro.2.2
        have hsl : (spansR (rAt rs (i : Nat))).length = (rAt rs (i : Nat)).cells.length := spansFrom_len _ _
        have hse := encS_len (spansR (rAt rs (i : Nat)))
        have hck := encCs_len (rAt rs (i : Nat)).cells
        have hx := rowsY_at rs vs (fun (j : Nat) => mrgR a (j : Nat) (rAt rs (j : Nat))) T i i hil (by omega)
        have hclr : ClosedR rs a (i : Nat) := fun k hv => closed_row hclo (by omega) (by omega) hv
        refine TC.skip' ?_
        refine TC.seq ?_
        refine TC.block ?_
        refine TC.seq ?_
        refine TC.region ?_
        refine TL.run1 (pure_assign rfl) rfl ?_
        refine TL.nil' ?_
        refine TC.seq ?_
        refine TC.region ?_
        first | refine TL.run1 (pure_fieldAddr Ty.f38_1 rfl (.succ (.zero _)) (List.cons_ne_nil _ _)) rfl ?_ | refine TL.run1 (pure_fieldAddr_own Ty.f38_1 rfl) rfl ?_
        first | refine TL.run1 (pure_load1 Ty.one3 rfl) rfl ?_ | refine TL.run1 (pure_load1_own Ty.one3 rfl (by repeat (first | exact List.Mem.head _ | apply List.Mem.tail)) (by repeat (first | exact DropR.zero _ | apply DropR.succ))) rfl ?_
        refine TL.run1 (pure_assign rfl) rfl ?_
        refine TL.run1 (pure_assign rfl) rfl ?_
        refine TL.nil' ?_
        refine TC.seq ?_
        refine TC.seq ?_
        refine TC.nilrow 74 7 ?_
        rw [inB_drop rs vs i hil hvl, List.cons_append]
        refine TC.region ?_
        refine TL.run1 (pure_move rfl) rfl ?_
        refine TL.run1 (pure_move rfl) rfl ?_
        refine TL.run1 (pure_indexAddr Ty.sl22 rfl rfl (by omega) hrow (by simp [encR])) rfl ?_
        first | refine TL.run1 (pure_load Ty.agg36 rfl (.succ (.succ (.succ (.succ (.succ (.succ (.zero _)))))))) rfl ?_ | refine TL.run1 (pure_load_own Ty.agg36 rfl (by repeat (first | exact List.Mem.head _ | apply List.Mem.tail)) (by repeat (first | exact DropR.zero _ | apply DropR.succ)) (.succ (.succ (.succ (.succ (.succ (.succ (.zero _)))))))) rfl ?_
        first | refine TL.run1 (pure_call (spans_spec _ hro) (.cons rfl .nil) Try.call39) rfl ?_ | refine TL.run1 (pure_call (spans_spec _ hroB) (.cons rfl .nil) Try.call39) rfl ?_
        first | refine TL.run1 (pure_len Ty.sl44 rfl) rfl ?_ | refine TL.run1 (pure_len_row Ty.sl44 rfl (by repeat (first | exact List.Mem.head _ | apply List.Mem.tail))) rfl ?_ | refine TL.run1 (pure_len_nil Ty.sl44 rfl) rfl ?_
        refine TL.run1 (pure_move rfl) rfl ?_
        refine TL.nil' ?_
        refine TC.block ?_
        refine TC.loopX (X := Nat × Value × Bool × Int × Bool) (fun (k, v, E, en, fi) => [(0, .sl 6 (encRs rs)), (3, .at_ [.v (.int .i64 a.t), .v (.int .i64 a.l), .v (.int .i64 a.b), .v (.int .i64 a.r)]), (8, .v v8), (9, .v (.bool E)), (10, .v (.int .i64 i)), (11, .v v), (12, .v (.int .i64 en)), (13, .v (.bool fi)), (51, .sl 2 (encS (spansR (rAt rs (i : Nat))))), (52, .v (.int .i64 (encS (spansR (rAt rs (i : Nat)))).length)), (53, .v (.int .i64 k))]) (fun (k, v, E, en, fi) => (Blk.row v 74 7 (encCs (mrgTo a (i : Nat) (rAt rs (i : Nat)) k)) :: Blk.row v8 36 6 (rowsY rs vs (fun (j : Nat) => mrgR a (j : Nat) (rAt rs (j : Nat))) T i) :: Blk.row (vAt vs i) 74 7 (encCs (rAt rs (i : Nat)).cells) :: (inB (rs.drop (i + 1)) (vs.drop (i + 1)) ++ inB (rs.take T) (vs.take T)))) (fun (k, v, E, en, fi) => (k ≤ (rAt rs (i : Nat)).cells.length) ∧ (E = true ↔ FillTo rs a (i : Nat) (k : Nat)) ∧ (fi = decide (spTo (rAt rs (i : Nat)) (k : Nat) ≤ a.l)) ∧ (en = endA a (spTo (rAt rs (i : Nat)) (k : Nat)))) (fun (k, v, E, en, fi) => (rAt rs (i : Nat)).cells.length - k) (0, .slice none 0 0, F, a.l, true) ⟨by (try dsimp only); repeat (first | exact Agree.nil | refine Agree.cons rfl ?_), by (try dsimp only); repeat (first | exact List.nil_sublist _ | exact List.Sublist.refl _ | apply List.Sublist.cons_cons | apply List.Sublist.cons)⟩ ?_ ?_
        · skip
          exact ⟨Nat.zero_le _, hF, (decide_eq_true (show (0 : Int) ≤ a.l from b4)).symm, by (show a.l = endA a 0); unfold endA; omega⟩
        rintro ⟨k, v, E, en, fi⟩
        rintro ⟨k1, k2, k3, k4⟩
        show TC _ _ _ (Env.of [(0, .sl 6 (encRs rs)), (3, .at_ [.v (.int .i64 a.t), .v (.int .i64 a.l), .v (.int .i64 a.b), .v (.int .i64 a.r)]), (8, .v v8), (9, .v (.bool E)), (10, .v (.int .i64 i)), (11, .v v), (12, .v (.int .i64 en)), (13, .v (.bool fi)), (51, .sl 2 (encS (spansR (rAt rs (i : Nat))))), (52, .v (.int .i64 (encS (spansR (rAt rs (i : Nat)))).length)), (53, .v (.int .i64 k))]) (Blk.row v 74 7 (encCs (mrgTo a (i : Nat) (rAt rs (i : Nat)) k)) :: Blk.row v8 36 6 (rowsY rs vs (fun (j : Nat) => mrgR a (j : Nat) (rAt rs (j : Nat))) T i) :: Blk.row (vAt vs i) 74 7 (encCs (rAt rs (i : Nat)).cells) :: (inB (rs.drop (i + 1)) (vs.drop (i + 1)) ++ inB (rs.take T) (vs.take T)))
        refine TC.seq ?_
        refine TC.region ?_
        refine TL.run1 (pure_lss rfl rfl) rfl ?_
        refine TL.nil' ?_
        refine TC.seq ?_
        first | refine TC.condD rfl (fun hc54 => ?_) (fun hc54 => ?_) | refine TC.condN rfl (fun hc54 => ?_) (fun hc54 => ?_) | refine TC.cond rfl (fun hc54 => ?_) (fun hc54 => ?_)
        · try dsimp only at hc54
          have hkl : k < (rAt rs (i : Nat)).cells.length := by omega
          have hsp := encS_get (spansR (rAt rs (i : Nat))) (k : Int) (by omega) (by omega)
          obtain ⟨hci, hcl⟩ := hro.1 (cAt (rAt rs (i : Nat)).cells (k : Nat)) (cAt_mem (rAt rs (i : Nat)).cells (k : Int) (by omega) (by omega))
          have hx2 : (encCs (rAt rs (i : Nat)).cells)[k]? = some (encC (cAt (rAt rs (i : Nat)).cells (k : Nat))) := by (have := encCs_get (rAt rs (i : Nat)).cells (k : Int) (by omega) (by omega); rwa [Int.toNat_natCast] at this)
          have hrc := row_cell hclr (by omega) (by omega) b5 k hkl
          have hml := mrgTo_len a (i : Nat) (rAt rs (i : Nat)) k
          have hmce := encCs_len (mrgTo a (i : Nat) (rAt rs (i : Nat)) k)
          have hpk := putC_ok hci 60 (a.r - a.l) 1
          have hcp := hP (rAt rs (i : Nat)) (rAt_mem rs (i : Int) (by omega) (by omega)) (cAt (rAt rs (i : Nat)).cells (k : Nat)) (cAt_mem (rAt rs (i : Nat)).cells (k : Int) (by omega) (by omega))
          refine TC.skip' ?_
          refine TC.seq ?_
          refine TC.block ?_
          refine TC.seq ?_
          refine TC.region ?_
          refine TL.run1 (pure_move rfl) rfl ?_
          refine TL.run1 (pure_indexAddr Ty.sl44 rfl rfl (by omega) hsp (List.cons_ne_nil _ _)) rfl ?_
          first | refine TL.run1 (pure_load Ty.agg51 rfl (.succ (.succ (.zero _)))) rfl ?_ | refine TL.run1 (pure_load_own Ty.agg51 rfl (by repeat (first | exact List.Mem.head _ | apply List.Mem.tail)) (by repeat (first | exact DropR.zero _ | apply DropR.succ)) (.succ (.succ (.zero _)))) rfl ?_
          refine TL.alloc Ty.zero51 rfl (fun g15 => ?_)
          refine TL.run1 (pure_assign rfl) rfl ?_
          refine TL.store rfl rfl (.agg _) Try.sizeOf51 rfl (by repeat (first | exact UpdR.here _ | apply UpdR.there)) (by repeat (first | exact PutR.nil _ | apply PutR.here | apply PutR.skip)) ?_
          refine TL.nil' ?_
          refine TC.seq ?_
          refine TC.freezeBox 15 (List.cons_ne_nil _ _) (.here _) rfl ?_
          refine TC.region ?_
          refine TL.run1 (pure_move rfl) rfl ?_
          refine TL.run1 (pure_move rfl) rfl ?_
          refine TL.indexRow Ty.sl22 rfl rfl (by repeat (first | exact List.Mem.head _ | apply List.Mem.tail)) (by omega) (by rw [rowsY_len]; omega) rfl (fun go hgo => ?_)
          first | refine TL.run1 (pure_fieldAddr Ty.f36_1 rfl (.succ (.succ (.succ (.succ (.succ (.zero _)))))) (List.cons_ne_nil _ _)) rfl ?_ | refine TL.run1 (pure_fieldAddr_own Ty.f36_1 rfl) rfl ?_
          refine TL.run1 (pure_load1_row (es := 6) (i := i) (o := 5) Ty.one34 (by decide) rfl hgo (by repeat (first | exact List.Mem.head _ | apply List.Mem.tail)) (by omega) hx (by repeat (first | exact DropR.zero _ | apply DropR.succ))) rfl ?_
          refine TL.run1 (pure_move rfl) rfl ?_
          refine TL.indexRow Ty.sl34 rfl rfl (by repeat (first | exact List.Mem.head _ | apply List.Mem.tail)) (by omega) (by omega) rfl (fun gi hgi => ?_)
          refine TL.run1 (pure_load_row (es := 7) (i := k) (o := 0) Ty.agg74 (by decide) rfl hgi (by repeat (first | exact List.Mem.head _ | apply List.Mem.tail)) (by omega) hx2 (.zero _) (.succ (.succ (.succ (.succ (.succ (.succ (.succ (.zero _))))))))) rfl ?_
          refine TL.alloc Ty.zero74 rfl (fun g16 => ?_)
          refine TL.store rfl rfl (.agg _) Try.sizeOf74 rfl (by repeat (first | exact UpdR.here _ | apply UpdR.there)) (by repeat (first | exact PutR.nil _ | apply PutR.here | apply PutR.skip)) ?_
          refine TL.nil' ?_
          refine TC.seq ?_
          refine TC.regionCut [66, 67, 68, 69, 70, 71, 72, 73, 74, 75, 76, 77, 78, 79, 80, 81, 82, 83, 84] 84 (keepN a (sAt (spansR (rAt rs (i : Nat))) (k : Nat))) ?_ ?_
          · skip
            first | refine TL.run1 (pure_fieldAddr Ty.f51_0 rfl (.zero _) (List.cons_ne_nil _ _)) rfl ?_ | refine TL.run1 (pure_fieldAddr_own Ty.f51_0 rfl) rfl ?_
            first | refine TL.run1 (pure_load1 Ty.one3 rfl) rfl ?_ | refine TL.run1 (pure_load1_own Ty.one3 rfl (by repeat (first | exact List.Mem.head _ | apply List.Mem.tail)) (by repeat (first | exact DropR.zero _ | apply DropR.succ))) rfl ?_
            first | refine TL.run1 (pure_fieldAddr Ty.f38_1 rfl (.succ (.zero _)) (List.cons_ne_nil _ _)) rfl ?_ | refine TL.run1 (pure_fieldAddr_own Ty.f38_1 rfl) rfl ?_
            first | refine TL.run1 (pure_load1 Ty.one3 rfl) rfl ?_ | refine TL.run1 (pure_load1_own Ty.one3 rfl (by repeat (first | exact List.Mem.head _ | apply List.Mem.tail)) (by repeat (first | exact DropR.zero _ | apply DropR.succ))) rfl ?_
            refine TL.run1 (pure_lss rfl rfl) rfl ?_
            refine TL.run1 (pure_move rfl) rfl ?_
            first | refine TL.splitP 71 rfl (fun hg71 => ?_) (fun hg71 => ?_) | refine TL.split 71 rfl (fun hg71 => ?_) (fun hg71 => ?_)
            · try dsimp only at hg71
              refine TL.passG rfl rfl rfl rfl ?_
              refine TL.passG rfl rfl rfl rfl ?_
              refine TL.passG rfl rfl rfl rfl ?_
              refine TL.passG rfl rfl rfl rfl ?_
              refine TL.passG rfl rfl rfl rfl ?_
              refine TL.run1 (pure_pick_true rfl rfl) rfl ?_
              refine TL.run1 (pure_move rfl) rfl ?_
              refine TL.passG rfl rfl rfl rfl ?_
              refine TL.passG rfl rfl rfl rfl ?_
              refine TL.passG rfl rfl rfl rfl ?_
              refine TL.passG rfl rfl rfl rfl ?_
              refine TL.passG rfl rfl rfl rfl ?_
              refine TL.run1 (pure_pick_true rfl rfl) rfl ?_
              refine TL.cutEnd (by repeat (first | exact Same.refl _ _ | refine Same.put rfl ?_)) rfl ?_
              first | (simp only [keepN, decide_eq_true_eq, Bool.false_eq_true, false_iff, true_iff, iff_true, iff_false, Bool.not_eq_true]; omega) | (simp_all [keepN]; done) | (simp_all [keepN]; omega) | grind [keepN]
            · try dsimp only at hg71
              first | refine TL.runG rfl rfl (pure_fieldAddr Ty.f51_1 rfl (.succ (.zero _)) (List.cons_ne_nil _ _)) rfl ?_ | refine TL.runG rfl rfl (pure_fieldAddr_own Ty.f51_1 rfl) rfl ?_
              first | refine TL.runG rfl rfl (pure_load1 Ty.one3 rfl) rfl ?_ | refine TL.runG rfl rfl (pure_load1_own Ty.one3 rfl (by repeat (first | exact List.Mem.head _ | apply List.Mem.tail)) (by repeat (first | exact DropR.zero _ | apply DropR.succ))) rfl ?_
              first | refine TL.runG rfl rfl (pure_fieldAddr Ty.f38_3 rfl (.succ (.succ (.succ (.zero _)))) (List.cons_ne_nil _ _)) rfl ?_ | refine TL.runG rfl rfl (pure_fieldAddr_own Ty.f38_3 rfl) rfl ?_
              first | refine TL.runG rfl rfl (pure_load1 Ty.one3 rfl) rfl ?_ | refine TL.runG rfl rfl (pure_load1_own Ty.one3 rfl (by repeat (first | exact List.Mem.head _ | apply List.Mem.tail)) (by repeat (first | exact DropR.zero _ | apply DropR.succ))) rfl ?_
              refine TL.runG rfl rfl (pure_gtr rfl rfl) rfl ?_
              refine TL.run1 (pure_pick_false rfl rfl) rfl ?_
              refine TL.run1 (pure_move rfl) rfl ?_
              first | refine TL.splitP 78 rfl (fun hg78 => ?_) (fun hg78 => ?_) | refine TL.split 78 rfl (fun hg78 => ?_) (fun hg78 => ?_)
              · try dsimp only at hg78
                refine TL.passG rfl rfl rfl rfl ?_
                refine TL.passG rfl rfl rfl rfl ?_
                refine TL.passG rfl rfl rfl rfl ?_
                refine TL.passG rfl rfl rfl rfl ?_
                refine TL.passG rfl rfl rfl rfl ?_
                refine TL.run1 (pure_pick_true rfl rfl) rfl ?_
                refine TL.cutEnd (by repeat (first | exact Same.refl _ _ | refine Same.put rfl ?_)) rfl ?_
                first | (simp only [keepN, decide_eq_true_eq, Bool.false_eq_true, false_iff, true_iff, iff_true, iff_false, Bool.not_eq_true]; omega) | (simp_all [keepN]; done) | (simp_all [keepN]; omega) | grind [keepN]
              · try dsimp only at hg78
                first | refine TL.runG rfl rfl (pure_fieldAddr Ty.f51_0 rfl (.zero _) (List.cons_ne_nil _ _)) rfl ?_ | refine TL.runG rfl rfl (pure_fieldAddr_own Ty.f51_0 rfl) rfl ?_
                first | refine TL.runG rfl rfl (pure_load1 Ty.one3 rfl) rfl ?_ | refine TL.runG rfl rfl (pure_load1_own Ty.one3 rfl (by repeat (first | exact List.Mem.head _ | apply List.Mem.tail)) (by repeat (first | exact DropR.zero _ | apply DropR.succ))) rfl ?_
                first | refine TL.runG rfl rfl (pure_fieldAddr Ty.f51_1 rfl (.succ (.zero _)) (List.cons_ne_nil _ _)) rfl ?_ | refine TL.runG rfl rfl (pure_fieldAddr_own Ty.f51_1 rfl) rfl ?_
                first | refine TL.runG rfl rfl (pure_load1 Ty.one3 rfl) rfl ?_ | refine TL.runG rfl rfl (pure_load1_own Ty.one3 rfl (by repeat (first | exact List.Mem.head _ | apply List.Mem.tail)) (by repeat (first | exact DropR.zero _ | apply DropR.succ))) rfl ?_
                refine TL.runG rfl rfl (pure_eql rfl rfl) rfl ?_
                refine TL.run1 (pure_pick_false rfl rfl) rfl ?_
                refine TL.cutEnd (by repeat (first | exact Same.refl _ _ | refine Same.put rfl ?_)) rfl ?_
                first | (simp only [keepN, decide_eq_true_eq, Bool.false_eq_true, false_iff, true_iff, iff_true, iff_false, Bool.not_eq_true]; omega) | (simp_all [keepN]; done) | (simp_all [keepN]; omega) | grind [keepN]
          first | refine TC.condD rfl (fun hc84 => ?_) (fun hc84 => ?_) | refine TC.condN rfl (fun hc84 => ?_) (fun hc84 => ?_) | refine TC.cond rfl (fun hc84 => ?_) (fun hc84 => ?_)
          · try dsimp only at hc84
            refine TC.seq ?_
            refine TC.region ?_
            refine TL.run1 (pure_move rfl) rfl ?_
            first | refine TL.run1 (pure_load Ty.agg74 rfl (.succ (.succ (.succ (.succ (.succ (.succ (.succ (.zero _))))))))) rfl ?_ | refine TL.run1 (pure_load_own Ty.agg74 rfl (by repeat (first | exact List.Mem.head _ | apply List.Mem.tail)) (by repeat (first | exact DropR.zero _ | apply DropR.succ)) (.succ (.succ (.succ (.succ (.succ (.succ (.succ (.zero _))))))))) rfl ?_
            refine TL.run1 (pure_buildSlice (xs := [.tmp 86]) Ty.app34 (by decide) rfl rfl (.cons rfl (.agg _) rfl .nil)) rfl ?_
            refine TL.append Ty.app34 rfl rfl (by intro _; repeat (first | exact UpdR.here _ | apply UpdR.there)) (by simp only [List.length_append, List.length_cons, List.length_nil]; omega) (by simp only [List.length_append, List.length_cons, List.length_nil]; omega) rfl (fun v88 hv88 => ?_)
            refine TL.run1 (pure_assign rfl) rfl ?_
            refine TL.nil' ?_
            refine TC.exit ?_
            refine then_exit ?_
            refine block_here ?_
            refine then_normal ?_
            refine TC.region ?_
            refine TL.run1 (pure_add rfl rfl (mkI64 (by omega) (by omega))) rfl ?_
            refine TL.run1 (pure_move rfl) rfl ?_
            refine TL.nil ?_
            have hkk : ((k + 1 : Nat) : Int) = (k : Int) + 1 := by omega
            obtain ⟨c1, c2, c3, c4⟩ := hrc.1 hc84
            refine loop_next (k + 1, v88, E, en, fi) ⟨by ((try dsimp only); repeat (first | exact Agree.nil | refine Agree.cons rfl ?_)), by (try dsimp only); rw [c3, encCs_snoc]; repeat (first | exact List.nil_sublist _ | exact List.Sublist.refl _ | apply List.Sublist.cons_cons | apply List.Sublist.cons)⟩ ⟨by omega, ?_, ?_, ?_⟩ (by (try dsimp only); omega)
            · rw [hkk, FillTo.step (by omega), k2]; exact ⟨fun h => .inl h, fun h => h.resolve_right c4⟩
            · rw [hkk, k3, decide_eq_decide]; exact c2.symm
            · rw [hkk, k4]; exact c1.symm
          · try dsimp only at hc84
            refine TC.skip' ?_
            refine TC.seq ?_
            refine TC.region ?_
            first | refine TL.run1 (pure_fieldAddr Ty.f51_1 rfl (.succ (.zero _)) (List.cons_ne_nil _ _)) rfl ?_ | refine TL.run1 (pure_fieldAddr_own Ty.f51_1 rfl) rfl ?_
            first | refine TL.run1 (pure_load1 Ty.one3 rfl) rfl ?_ | refine TL.run1 (pure_load1_own Ty.one3 rfl (by repeat (first | exact List.Mem.head _ | apply List.Mem.tail)) (by repeat (first | exact DropR.zero _ | apply DropR.succ))) rfl ?_
            refine TL.run1 (pure_assign rfl) rfl ?_
            refine TL.nil' ?_
            refine TC.regionCut [91, 92, 93, 94, 95, 96, 97, 98, 99, 100, 101, 102, 103, 104, 105, 106, 107, 9] 9 ((E = true ∨ (((T : Int) < i ∨ fi = false) ∧ 0 < (cAt (rAt rs (i : Nat)).cells (k : Nat)).flow.length))) ?_ ?_
            · skip
              refine TL.run1 (pure_move rfl) rfl ?_
              refine TL.run1 (pure_move rfl) rfl ?_
              first | refine TL.splitP 92 rfl (fun hg92 => ?_) (fun hg92 => ?_) | refine TL.split 92 rfl (fun hg92 => ?_) (fun hg92 => ?_)
              · try dsimp only at hg92
                refine TL.passG rfl rfl rfl rfl ?_
                refine TL.passG rfl rfl rfl rfl ?_
                refine TL.passG rfl rfl rfl rfl ?_
                refine TL.passG rfl rfl rfl rfl ?_
                refine TL.passG rfl rfl rfl rfl ?_
                refine TL.passG rfl rfl rfl rfl ?_
                refine TL.passG rfl rfl rfl rfl ?_
                refine TL.passG rfl rfl rfl rfl ?_
                refine TL.passG rfl rfl rfl rfl ?_
                refine TL.passG rfl rfl rfl rfl ?_
                refine TL.passG rfl rfl rfl rfl ?_
                refine TL.passG rfl rfl rfl rfl ?_
                refine TL.passG rfl rfl rfl rfl ?_
                refine TL.passG rfl rfl rfl rfl ?_
                refine TL.run1 (pure_pick_true rfl rfl) rfl ?_
                refine TL.run1 (pure_assign rfl) rfl ?_
                refine TL.cutEnd (by repeat (first | exact Same.refl _ _ | refine Same.put rfl ?_)) rfl ?_
                first | (simp_all; done) | (simp_all; omega) | grind
              · try dsimp only at hg92
                refine TL.runG rfl rfl (pure_move rfl) rfl ?_
                first | refine TL.runG rfl rfl (pure_fieldAddr Ty.f38_0 rfl (.zero _) (List.cons_ne_nil _ _)) rfl ?_ | refine TL.runG rfl rfl (pure_fieldAddr_own Ty.f38_0 rfl) rfl ?_
                first | refine TL.runG rfl rfl (pure_load1 Ty.one3 rfl) rfl ?_ | refine TL.runG rfl rfl (pure_load1_own Ty.one3 rfl (by repeat (first | exact List.Mem.head _ | apply List.Mem.tail)) (by repeat (first | exact DropR.zero _ | apply DropR.succ))) rfl ?_
                refine TL.runG rfl rfl (pure_gtr rfl rfl) rfl ?_
                refine TL.runG rfl rfl (pure_move rfl) rfl ?_
                first | refine TL.splitP 97 rfl (fun hg97 => ?_) (fun hg97 => ?_) | refine TL.split 97 rfl (fun hg97 => ?_) (fun hg97 => ?_)
                · try dsimp only at hg97
                  refine TL.passG rfl rfl rfl rfl ?_
                  refine TL.passG rfl rfl rfl rfl ?_
                  refine TL.runG rfl rfl (pure_pick_true rfl rfl) rfl ?_
                  refine TL.runG rfl rfl (pure_move rfl) rfl ?_
                  first | refine TL.runG rfl rfl (pure_fieldAddr Ty.f74_2 rfl (.succ (.succ (.succ (.succ (.succ (.succ (.zero _))))))) (List.cons_ne_nil _ _)) rfl ?_ | refine TL.runG rfl rfl (pure_fieldAddr_own Ty.f74_2 rfl) rfl ?_
                  first | refine TL.runG rfl rfl (pure_load1 Ty.one72 rfl) rfl ?_ | refine TL.runG rfl rfl (pure_load1_own Ty.one72 rfl (by repeat (first | exact List.Mem.head _ | apply List.Mem.tail)) (by repeat (first | exact DropR.zero _ | apply DropR.succ))) rfl ?_
                  first | refine TL.runG rfl rfl (pure_len Ty.sl72 rfl) rfl ?_ | refine TL.runG rfl rfl (pure_len_row Ty.sl72 rfl (by repeat (first | exact List.Mem.head _ | apply List.Mem.tail))) rfl ?_ | refine TL.runG rfl rfl (pure_len_nil Ty.sl72 rfl) rfl ?_
                  refine TL.runG rfl rfl (pure_gtr rfl rfl) rfl ?_
                  refine TL.runG rfl rfl (pure_pick_true rfl rfl) rfl ?_
                  refine TL.run1 (pure_pick_false rfl rfl) rfl ?_
                  refine TL.run1 (pure_assign rfl) rfl ?_
                  refine TL.cutEnd (by repeat (first | exact Same.refl _ _ | refine Same.put rfl ?_)) rfl ?_
                  first | (simp_all; done) | (simp_all; omega) | grind
                · try dsimp only at hg97
                  refine TL.runG rfl rfl (pure_move rfl) rfl ?_
                  refine TL.runG rfl rfl (pure_not rfl) rfl ?_
                  refine TL.runG rfl rfl (pure_pick_false rfl rfl) rfl ?_
                  refine TL.runG rfl rfl (pure_move rfl) rfl ?_
                  first | refine TL.splitP 101 rfl (fun hg101 => ?_) (fun hg101 => ?_) | refine TL.split 101 rfl (fun hg101 => ?_) (fun hg101 => ?_)
                  · try dsimp only at hg101
                    first | refine TL.runG rfl rfl (pure_fieldAddr Ty.f74_2 rfl (.succ (.succ (.succ (.succ (.succ (.succ (.zero _))))))) (List.cons_ne_nil _ _)) rfl ?_ | refine TL.runG rfl rfl (pure_fieldAddr_own Ty.f74_2 rfl) rfl ?_
                    first | refine TL.runG rfl rfl (pure_load1 Ty.one72 rfl) rfl ?_ | refine TL.runG rfl rfl (pure_load1_own Ty.one72 rfl (by repeat (first | exact List.Mem.head _ | apply List.Mem.tail)) (by repeat (first | exact DropR.zero _ | apply DropR.succ))) rfl ?_
                    first | refine TL.runG rfl rfl (pure_len Ty.sl72 rfl) rfl ?_ | refine TL.runG rfl rfl (pure_len_row Ty.sl72 rfl (by repeat (first | exact List.Mem.head _ | apply List.Mem.tail))) rfl ?_ | refine TL.runG rfl rfl (pure_len_nil Ty.sl72 rfl) rfl ?_
                    refine TL.runG rfl rfl (pure_gtr rfl rfl) rfl ?_
                    refine TL.runG rfl rfl (pure_pick_true rfl rfl) rfl ?_
                    refine TL.run1 (pure_pick_false rfl rfl) rfl ?_
                    refine TL.run1 (pure_assign rfl) rfl ?_
                    refine TL.cutEnd (by repeat (first | exact Same.refl _ _ | refine Same.put rfl ?_)) rfl ?_
                    first | (simp_all; done) | (simp_all; omega) | grind
                  · try dsimp only at hg101
                    refine TL.passG rfl rfl rfl rfl ?_
                    refine TL.passG rfl rfl rfl rfl ?_
                    refine TL.passG rfl rfl rfl rfl ?_
                    refine TL.passG rfl rfl rfl rfl ?_
                    refine TL.runG rfl rfl (pure_pick_false rfl rfl) rfl ?_
                    refine TL.run1 (pure_pick_false rfl rfl) rfl ?_
                    refine TL.run1 (pure_assign rfl) rfl ?_
                    refine TL.cutEnd (by repeat (first | exact Same.refl _ _ | refine Same.put rfl ?_)) rfl ?_
                    first | (simp_all; done) | (simp_all; omega) | grind
            refine TC.seq ?_
            refine TC.seq ?_
            refine TC.region ?_
            refine TL.run1 (pure_move rfl) rfl ?_
            refine TL.run1 (pure_not rfl) rfl ?_
            refine TL.nil' ?_
            first | refine TC.condD rfl (fun hc109 => ?_) (fun hc109 => ?_) | refine TC.condN rfl (fun hc109 => ?_) (fun hc109 => ?_) | refine TC.cond rfl (fun hc109 => ?_) (fun hc109 => ?_)
            · try dsimp only at hc109
              refine TC.exit ?_
              refine then_exit ?_
              refine block_here ?_
              refine then_normal ?_
              refine TC.region ?_
              refine TL.run1 (pure_add rfl rfl (mkI64 (by omega) (by omega))) rfl ?_
              refine TL.run1 (pure_move rfl) rfl ?_
              refine TL.nil ?_
              have hkk : ((k + 1 : Nat) : Int) = (k : Int) + 1 := by omega
              obtain ⟨c1, c2, c3, c4, c5⟩ := hrc.2 hc84
              have hfi : ¬ spTo (rAt rs (i : Nat)) k ≤ a.l := by (intro h; simp_all)
              have hfl2 : decide (E = true ∨ (((T : Int) < i ∨ fi = false) ∧ 0 < (cAt (rAt rs (i : Nat)).cells (k : Nat)).flow.length)) = true ↔ FillTo rs a (i : Nat) ((k : Int) + 1) := by
                rw [decide_eq_true_eq, FillTo.step (by omega), c5, k2]
                have e1 : fi = false ↔ ¬ spTo (rAt rs (i : Nat)) k ≤ a.l := by (rw [k3]; simp)
                rw [e1]
                constructor
                · rintro (h | ⟨h1, h2⟩); exact .inl h; exact .inr ⟨h1.imp (fun h => by omega) id, h2⟩
                · rintro (h | ⟨h1, h2⟩); exact .inl h; exact .inr ⟨h1.imp (fun h => by omega) id, h2⟩
              refine loop_next (k + 1, v, decide (E = true ∨ (((T : Int) < i ∨ fi = false) ∧ 0 < (cAt (rAt rs (i : Nat)).cells (k : Nat)).flow.length)), (sAt (spansR (rAt rs (i : Nat))) (k : Nat)).2, fi) ⟨by ((try dsimp only); repeat (first | exact Agree.nil | refine Agree.cons rfl ?_)), by (try dsimp only); rw [c4 hfi]; repeat (first | exact List.nil_sublist _ | exact List.Sublist.refl _ | apply List.Sublist.cons_cons | apply List.Sublist.cons)⟩ ⟨by omega, by rw [hkk]; exact hfl2, ?_, ?_⟩ (by (try dsimp only); omega)
              · rw [hkk, k3, decide_eq_decide]; exact ⟨fun h => absurd h hfi, fun h => absurd h c2⟩
              · rw [hkk]; exact c1.symm
            · try dsimp only at hc109
              refine TC.skip' ?_
              refine TC.seq ?_
              refine TC.region ?_
              refine TL.run1 (pure_assign rfl) rfl ?_
              refine TL.nil' ?_
              refine TC.seq ?_
              refine TC.region ?_
              first | refine TL.run1 (pure_fieldAddr Ty.f38_3 rfl (.succ (.succ (.succ (.zero _)))) (List.cons_ne_nil _ _)) rfl ?_ | refine TL.run1 (pure_fieldAddr_own Ty.f38_3 rfl) rfl ?_
              first | refine TL.run1 (pure_load1 Ty.one3 rfl) rfl ?_ | refine TL.run1 (pure_load1_own Ty.one3 rfl (by repeat (first | exact List.Mem.head _ | apply List.Mem.tail)) (by repeat (first | exact DropR.zero _ | apply DropR.succ))) rfl ?_
              first | refine TL.run1 (pure_fieldAddr Ty.f38_1 rfl (.succ (.zero _)) (List.cons_ne_nil _ _)) rfl ?_ | refine TL.run1 (pure_fieldAddr_own Ty.f38_1 rfl) rfl ?_
              first | refine TL.run1 (pure_load1 Ty.one3 rfl) rfl ?_ | refine TL.run1 (pure_load1_own Ty.one3 rfl (by repeat (first | exact List.Mem.head _ | apply List.Mem.tail)) (by repeat (first | exact DropR.zero _ | apply DropR.succ))) rfl ?_
              refine TL.run1 (pure_sub rfl rfl (mkI64 (by omega) (by omega))) rfl ?_
              refine TL.callD (.left (SplitR.none _)) (putB_spec g16 (cAt (rAt rs (i : Nat)).cells (k : Nat)) 60 (a.r - a.l) 1 hci hcl) (.cons rfl (.cons rfl (.cons rfl (.cons rfl .nil)))) Try.call46 (fun t ht => by cases ht; exact of_decide_eq_true rfl) ?_
              rintro r2 H2 rfl
              simp only [List.cons_append, List.nil_append]
              refine TL.nil' ?_
              refine TC.seq ?_
              refine TC.region ?_
              refine TL.run1 (pure_assign rfl) rfl ?_
              refine TL.nil' ?_
              refine TC.seq ?_
              refine TC.block ?_
              refine TC.seq ?_
              refine TC.region ?_
              first | refine TL.run1 (pure_fieldAddr Ty.f38_2 rfl (.succ (.succ (.zero _))) (List.cons_ne_nil _ _)) rfl ?_ | refine TL.run1 (pure_fieldAddr_own Ty.f38_2 rfl) rfl ?_
              first | refine TL.run1 (pure_load1 Ty.one3 rfl) rfl ?_ | refine TL.run1 (pure_load1_own Ty.one3 rfl (by repeat (first | exact List.Mem.head _ | apply List.Mem.tail)) (by repeat (first | exact DropR.zero _ | apply DropR.succ))) rfl ?_
              first | refine TL.run1 (pure_fieldAddr Ty.f38_0 rfl (.zero _) (List.cons_ne_nil _ _)) rfl ?_ | refine TL.run1 (pure_fieldAddr_own Ty.f38_0 rfl) rfl ?_
              first | refine TL.run1 (pure_load1 Ty.one3 rfl) rfl ?_ | refine TL.run1 (pure_load1_own Ty.one3 rfl (by repeat (first | exact List.Mem.head _ | apply List.Mem.tail)) (by repeat (first | exact DropR.zero _ | apply DropR.succ))) rfl ?_
              refine TL.run1 (pure_add rfl rfl (mkI64 (by omega) (by omega))) rfl ?_
              refine TL.run1 (pure_eql rfl rfl) rfl ?_
              refine TL.run1 (pure_assign rfl) rfl ?_
              refine TL.nil' ?_
              first | refine TC.condD rfl (fun hc116 => ?_) (fun hc116 => ?_) | refine TC.condN rfl (fun hc116 => ?_) (fun hc116 => ?_) | refine TC.cond rfl (fun hc116 => ?_) (fun hc116 => ?_)
              · try dsimp only at hc116
                have hmv : mvA a (i : Nat) = 0 := by (unfold mvA; rw [if_pos hc116])
                refine TC.region ?_
                refine TL.run1 (pure_assign rfl) rfl ?_
                refine TL.nil ?_
                refine block_normal ?_
                refine then_normal ?_
                refine TC.seq ?_
                refine TC.region ?_
                refine TL.run1 (pure_move rfl) rfl ?_
                refine TL.callD (.left (SplitR.none _)) (putB_spec g16 (putC (cAt (rAt rs (i : Nat)).cells (k : Nat)) 60 (a.r - a.l) 1) 61 (mvA a (i : Nat)) 0 hpk.1 (by omega)) (.cons rfl (.cons rfl (.cons (show some _ = some _ from by rw [hmv]) (.cons rfl .nil)))) Try.call46 (fun t ht => by cases ht; exact of_decide_eq_true rfl) ?_
                rintro r2 H2 rfl
                simp only [List.cons_append, List.nil_append]
                refine TL.nil' ?_
                refine TC.region ?_
                refine TL.run1 (pure_move rfl) rfl ?_
                first | refine TL.run1 (pure_load Ty.agg74 rfl (.succ (.succ (.succ (.succ (.succ (.succ (.succ (.zero _))))))))) rfl ?_ | refine TL.run1 (pure_load_own Ty.agg74 rfl (by repeat (first | exact List.Mem.head _ | apply List.Mem.tail)) (by repeat (first | exact DropR.zero _ | apply DropR.succ)) (.succ (.succ (.succ (.succ (.succ (.succ (.succ (.zero _))))))))) rfl ?_
                refine TL.run1 (pure_buildSlice (xs := [.tmp 131]) Ty.app34 (by decide) rfl rfl (.cons rfl (.agg _) rfl .nil)) rfl ?_
                refine TL.append Ty.app34 rfl rfl (by intro _; repeat (first | exact UpdR.here _ | apply UpdR.there)) (by simp only [List.length_append, List.length_cons, List.length_nil]; omega) (by simp only [List.length_append, List.length_cons, List.length_nil]; omega) rfl (fun v133 hv133 => ?_)
                refine TL.run1 (pure_assign rfl) rfl ?_
                refine TL.nil ?_
                refine block_normal ?_
                refine then_normal ?_
                refine TC.region ?_
                refine TL.run1 (pure_add rfl rfl (mkI64 (by omega) (by omega))) rfl ?_
                refine TL.run1 (pure_move rfl) rfl ?_
                refine TL.nil ?_
                have hkk : ((k + 1 : Nat) : Int) = (k : Int) + 1 := by omega
                obtain ⟨c1, c2, c3, c4, c5⟩ := hrc.2 hc84
                have hfi : spTo (rAt rs (i : Nat)) k ≤ a.l := by (simp_all)
                have hfl2 : decide (E = true ∨ (((T : Int) < i ∨ fi = false) ∧ 0 < (cAt (rAt rs (i : Nat)).cells (k : Nat)).flow.length)) = true ↔ FillTo rs a (i : Nat) ((k : Int) + 1) := by
                  rw [decide_eq_true_eq, FillTo.step (by omega), c5, k2]
                  have e1 : fi = false ↔ ¬ spTo (rAt rs (i : Nat)) k ≤ a.l := by (rw [k3]; simp)
                  rw [e1]
                  constructor
                  · rintro (h | ⟨h1, h2⟩); exact .inl h; exact .inr ⟨h1.imp (fun h => by omega) id, h2⟩
                  · rintro (h | ⟨h1, h2⟩); exact .inl h; exact .inr ⟨h1.imp (fun h => by omega) id, h2⟩
                refine loop_next (k + 1, v133, decide (E = true ∨ (((T : Int) < i ∨ fi = false) ∧ 0 < (cAt (rAt rs (i : Nat)).cells (k : Nat)).flow.length)), (sAt (spansR (rAt rs (i : Nat))) (k : Nat)).2, false) ⟨by ((try dsimp only); repeat (first | exact Agree.nil | refine Agree.cons rfl ?_)), by (try dsimp only); rw [c3 hfi, encCs_snoc]; repeat (first | exact List.nil_sublist _ | exact List.Sublist.refl _ | apply List.Sublist.cons_cons | apply List.Sublist.cons)⟩ ⟨by omega, by rw [hkk]; exact hfl2, ?_, ?_⟩ (by (try dsimp only); omega)
                · rw [hkk]; exact (decide_eq_false c2).symm
                · rw [hkk]; exact c1.symm
              · try dsimp only at hc116
                refine TC.seq ?_
                refine TC.region ?_
                refine TL.run1 (pure_move rfl) rfl ?_
                first | refine TL.run1 (pure_fieldAddr Ty.f38_0 rfl (.zero _) (List.cons_ne_nil _ _)) rfl ?_ | refine TL.run1 (pure_fieldAddr_own Ty.f38_0 rfl) rfl ?_
                first | refine TL.run1 (pure_load1 Ty.one3 rfl) rfl ?_ | refine TL.run1 (pure_load1_own Ty.one3 rfl (by repeat (first | exact List.Mem.head _ | apply List.Mem.tail)) (by repeat (first | exact DropR.zero _ | apply DropR.succ))) rfl ?_
                refine TL.run1 (pure_eql rfl rfl) rfl ?_
                refine TL.run1 (pure_assign rfl) rfl ?_
                refine TL.nil' ?_
                first | refine TC.condD rfl (fun hc123 => ?_) (fun hc123 => ?_) | refine TC.condN rfl (fun hc123 => ?_) (fun hc123 => ?_) | refine TC.cond rfl (fun hc123 => ?_) (fun hc123 => ?_)
                · try dsimp only at hc123
                  have hmv : mvA a (i : Nat) = 1 := by (unfold mvA; rw [if_neg hc116, if_pos hc123])
                  refine TC.region ?_
                  refine TL.run1 (pure_assign rfl) rfl ?_
                  refine TL.nil ?_
                  refine block_normal ?_
                  refine then_normal ?_
                  refine TC.seq ?_
                  refine TC.region ?_
                  refine TL.run1 (pure_move rfl) rfl ?_
                  refine TL.callD (.left (SplitR.none _)) (putB_spec g16 (putC (cAt (rAt rs (i : Nat)).cells (k : Nat)) 60 (a.r - a.l) 1) 61 (mvA a (i : Nat)) 0 hpk.1 (by omega)) (.cons rfl (.cons rfl (.cons (show some _ = some _ from by rw [hmv]) (.cons rfl .nil)))) Try.call46 (fun t ht => by cases ht; exact of_decide_eq_true rfl) ?_
                  rintro r2 H2 rfl
                  simp only [List.cons_append, List.nil_append]
                  refine TL.nil' ?_
                  refine TC.region ?_
                  refine TL.run1 (pure_move rfl) rfl ?_
                  first | refine TL.run1 (pure_load Ty.agg74 rfl (.succ (.succ (.succ (.succ (.succ (.succ (.succ (.zero _))))))))) rfl ?_ | refine TL.run1 (pure_load_own Ty.agg74 rfl (by repeat (first | exact List.Mem.head _ | apply List.Mem.tail)) (by repeat (first | exact DropR.zero _ | apply DropR.succ)) (.succ (.succ (.succ (.succ (.succ (.succ (.succ (.zero _))))))))) rfl ?_
                  refine TL.run1 (pure_buildSlice (xs := [.tmp 131]) Ty.app34 (by decide) rfl rfl (.cons rfl (.agg _) rfl .nil)) rfl ?_
                  refine TL.append Ty.app34 rfl rfl (by intro _; repeat (first | exact UpdR.here _ | apply UpdR.there)) (by simp only [List.length_append, List.length_cons, List.length_nil]; omega) (by simp only [List.length_append, List.length_cons, List.length_nil]; omega) rfl (fun v133 hv133 => ?_)
                  refine TL.run1 (pure_assign rfl) rfl ?_
                  refine TL.nil ?_
                  refine block_normal ?_
                  refine then_normal ?_
                  refine TC.region ?_
                  refine TL.run1 (pure_add rfl rfl (mkI64 (by omega) (by omega))) rfl ?_
                  refine TL.run1 (pure_move rfl) rfl ?_
                  refine TL.nil ?_
                  have hkk : ((k + 1 : Nat) : Int) = (k : Int) + 1 := by omega
                  obtain ⟨c1, c2, c3, c4, c5⟩ := hrc.2 hc84
                  have hfi : spTo (rAt rs (i : Nat)) k ≤ a.l := by (simp_all)
                  have hfl2 : decide (E = true ∨ (((T : Int) < i ∨ fi = false) ∧ 0 < (cAt (rAt rs (i : Nat)).cells (k : Nat)).flow.length)) = true ↔ FillTo rs a (i : Nat) ((k : Int) + 1) := by
                    rw [decide_eq_true_eq, FillTo.step (by omega), c5, k2]
                    have e1 : fi = false ↔ ¬ spTo (rAt rs (i : Nat)) k ≤ a.l := by (rw [k3]; simp)
                    rw [e1]
                    constructor
                    · rintro (h | ⟨h1, h2⟩); exact .inl h; exact .inr ⟨h1.imp (fun h => by omega) id, h2⟩
                    · rintro (h | ⟨h1, h2⟩); exact .inl h; exact .inr ⟨h1.imp (fun h => by omega) id, h2⟩
                  refine loop_next (k + 1, v133, decide (E = true ∨ (((T : Int) < i ∨ fi = false) ∧ 0 < (cAt (rAt rs (i : Nat)).cells (k : Nat)).flow.length)), (sAt (spansR (rAt rs (i : Nat))) (k : Nat)).2, false) ⟨by ((try dsimp only); repeat (first | exact Agree.nil | refine Agree.cons rfl ?_)), by (try dsimp only); rw [c3 hfi, encCs_snoc]; repeat (first | exact List.nil_sublist _ | exact List.Sublist.refl _ | apply List.Sublist.cons_cons | apply List.Sublist.cons)⟩ ⟨by omega, by rw [hkk]; exact hfl2, ?_, ?_⟩ (by (try dsimp only); omega)
                  · rw [hkk]; exact (decide_eq_false c2).symm
                  · rw [hkk]; exact c1.symm
                · try dsimp only at hc123
                  have hmv : mvA a (i : Nat) = 2 := by (unfold mvA; rw [if_neg hc116, if_neg hc123])
                  refine TC.skip ?_
                  refine block_normal ?_
                  refine then_normal ?_
                  refine TC.seq ?_
                  refine TC.region ?_
                  refine TL.run1 (pure_move rfl) rfl ?_
                  refine TL.callD (.left (SplitR.none _)) (putB_spec g16 (putC (cAt (rAt rs (i : Nat)).cells (k : Nat)) 60 (a.r - a.l) 1) 61 (mvA a (i : Nat)) 0 hpk.1 (by omega)) (.cons rfl (.cons rfl (.cons (show some _ = some _ from by rw [hmv]) (.cons rfl .nil)))) Try.call46 (fun t ht => by cases ht; exact of_decide_eq_true rfl) ?_
                  rintro r2 H2 rfl
                  simp only [List.cons_append, List.nil_append]
                  refine TL.nil' ?_
                  refine TC.region ?_
                  refine TL.run1 (pure_move rfl) rfl ?_
                  first | refine TL.run1 (pure_load Ty.agg74 rfl (.succ (.succ (.succ (.succ (.succ (.succ (.succ (.zero _))))))))) rfl ?_ | refine TL.run1 (pure_load_own Ty.agg74 rfl (by repeat (first | exact List.Mem.head _ | apply List.Mem.tail)) (by repeat (first | exact DropR.zero _ | apply DropR.succ)) (.succ (.succ (.succ (.succ (.succ (.succ (.succ (.zero _))))))))) rfl ?_
                  refine TL.run1 (pure_buildSlice (xs := [.tmp 131]) Ty.app34 (by decide) rfl rfl (.cons rfl (.agg _) rfl .nil)) rfl ?_
                  refine TL.append Ty.app34 rfl rfl (by intro _; repeat (first | exact UpdR.here _ | apply UpdR.there)) (by simp only [List.length_append, List.length_cons, List.length_nil]; omega) (by simp only [List.length_append, List.length_cons, List.length_nil]; omega) rfl (fun v133 hv133 => ?_)
                  refine TL.run1 (pure_assign rfl) rfl ?_
                  refine TL.nil ?_
                  refine block_normal ?_
                  refine then_normal ?_
                  refine TC.region ?_
                  refine TL.run1 (pure_add rfl rfl (mkI64 (by omega) (by omega))) rfl ?_
                  refine TL.run1 (pure_move rfl) rfl ?_
                  refine TL.nil ?_
                  have hkk : ((k + 1 : Nat) : Int) = (k : Int) + 1 := by omega
                  obtain ⟨c1, c2, c3, c4, c5⟩ := hrc.2 hc84
                  have hfi : spTo (rAt rs (i : Nat)) k ≤ a.l := by (simp_all)
                  have hfl2 : decide (E = true ∨ (((T : Int) < i ∨ fi = false) ∧ 0 < (cAt (rAt rs (i : Nat)).cells (k : Nat)).flow.length)) = true ↔ FillTo rs a (i : Nat) ((k : Int) + 1) := by
                    rw [decide_eq_true_eq, FillTo.step (by omega), c5, k2]
                    have e1 : fi = false ↔ ¬ spTo (rAt rs (i : Nat)) k ≤ a.l := by (rw [k3]; simp)
                    rw [e1]
                    constructor
                    · rintro (h | ⟨h1, h2⟩); exact .inl h; exact .inr ⟨h1.imp (fun h => by omega) id, h2⟩
                    · rintro (h | ⟨h1, h2⟩); exact .inl h; exact .inr ⟨h1.imp (fun h => by omega) id, h2⟩
                  refine loop_next (k + 1, v133, decide (E = true ∨ (((T : Int) < i ∨ fi = false) ∧ 0 < (cAt (rAt rs (i : Nat)).cells (k : Nat)).flow.length)), (sAt (spansR (rAt rs (i : Nat))) (k : Nat)).2, false) ⟨by ((try dsimp only); repeat (first | exact Agree.nil | refine Agree.cons rfl ?_)), by (try dsimp only); rw [c3 hfi, encCs_snoc]; repeat (first | exact List.nil_sublist _ | exact List.Sublist.refl _ | apply List.Sublist.cons_cons | apply List.Sublist.cons)⟩ ⟨by omega, by rw [hkk]; exact hfl2, ?_, ?_⟩ (by (try dsimp only); omega)
                  · rw [hkk]; exact (decide_eq_false c2).symm
                  · rw [hkk]; exact c1.symm
        · try dsimp only at hc54
          refine TC.exit ?_
          refine then_exit ?_
          refine loop_exit ?_
          refine block_here ?_
          refine then_normal ?_
          refine TC.seq ?_
          have hke : k = (rAt rs (i : Nat)).cells.length := by omega
          subst hke
          refine TC.regionCut [135, 136, 137, 138, 139, 140, 141] 141 (fi = true ∨ en ≠ a.r) ?_ ?_
          · skip
            refine TL.run1 (pure_move rfl) rfl ?_
            refine TL.run1 (pure_move rfl) rfl ?_
            first | refine TL.splitP 136 rfl (fun hg136 => ?_) (fun hg136 => ?_) | refine TL.split 136 rfl (fun hg136 => ?_) (fun hg136 => ?_)
            · try dsimp only at hg136
              refine TL.passG rfl rfl rfl rfl ?_
              refine TL.passG rfl rfl rfl rfl ?_
              refine TL.passG rfl rfl rfl rfl ?_
              refine TL.passG rfl rfl rfl rfl ?_
              refine TL.run1 (pure_pick_true rfl rfl) rfl ?_
              refine TL.cutEnd (by repeat (first | exact Same.refl _ _ | refine Same.put rfl ?_)) rfl ?_
              first | (simp_all; done) | (simp_all; omega) | grind
            · try dsimp only at hg136
              refine TL.runG rfl rfl (pure_move rfl) rfl ?_
              first | refine TL.runG rfl rfl (pure_fieldAddr Ty.f38_3 rfl (.succ (.succ (.succ (.zero _)))) (List.cons_ne_nil _ _)) rfl ?_ | refine TL.runG rfl rfl (pure_fieldAddr_own Ty.f38_3 rfl) rfl ?_
              first | refine TL.runG rfl rfl (pure_load1 Ty.one3 rfl) rfl ?_ | refine TL.runG rfl rfl (pure_load1_own Ty.one3 rfl (by repeat (first | exact List.Mem.head _ | apply List.Mem.tail)) (by repeat (first | exact DropR.zero _ | apply DropR.succ))) rfl ?_
              refine TL.runG rfl rfl (pure_neq rfl rfl) rfl ?_
              refine TL.run1 (pure_pick_false rfl rfl) rfl ?_
              refine TL.cutEnd (by repeat (first | exact Same.refl _ _ | refine Same.put rfl ?_)) rfl ?_
              first | (simp_all; done) | (simp_all; omega) | grind
          first | refine TC.condD rfl (fun hc141 => ?_) (fun hc141 => ?_) | refine TC.condN rfl (fun hc141 => ?_) (fun hc141 => ?_) | refine TC.cond rfl (fun hc141 => ?_) (fun hc141 => ?_)
          · try dsimp only at hc141
            have hnf : ¬ FullA rs a := by (intro h; have h1 := h (i : Nat) (by omega) (by omega); have h2 := (row_full (a := a) (e := spTo (rAt rs (i : Nat)) (rAt rs (i : Nat)).cells.length) b5).1 (by rw [← k4]; exact hc141.imp (fun h => by (rw [k3] at h; exact of_decide_eq_true h)) id); omega)
            refine TC.seq ?_
            refine TC.region ?_
            refine TL.run1 (pure_assign rfl) rfl ?_
            refine TL.le 4 rfl (Le.nil 6) ?_
            refine TL.run1 (pure_assign rfl) rfl ?_
            refine TL.nil' ?_
            refine TC.ret ?_
            refine then_ret ?_
            refine block_ret ?_
            refine then_ret ?_
            refine loop_ret ?_
            refine block_ret ?_
            refine then_ret ?_
            have hE := mrgE_3 hin hnf
            rw [mrgV_bad (by rw [hE]; decide), hE]
            exact retF2 (.inl rfl) rfl rfl (.tupL (.cons (.same _) (.cons (.same _) .nil)))
          · try dsimp only at hc141
            have hrowf : a.r ≤ spTo (rAt rs (i : Nat)) (rAt rs (i : Nat)).cells.length := by (refine Int.not_lt.1 fun h => hc141 ?_; have h2 := (row_full (a := a) b5).2 h; rw [← k4] at h2; exact h2.imp (fun h => by (rw [k3]; exact decide_eq_true h)) id)
            refine TC.skip' ?_
            refine TC.region ?_
            refine TL.run1 (pure_move rfl) rfl ?_
            refine TL.run1 (pure_move rfl) rfl ?_
            refine TL.run1 (pure_move rfl) rfl ?_
            refine TL.freeze 144 (show (0 : Nat) < 7 by decide) (.here _) rfl ?_
            refine TL.indexRow Ty.sl22 rfl rfl (by repeat (first | exact List.Mem.head _ | apply List.Mem.tail)) (by omega) (by rw [rowsY_len]; omega) rfl (fun go hgo => ?_)
            first | refine TL.run1 (pure_fieldAddr Ty.f36_1 rfl (.succ (.succ (.succ (.succ (.succ (.zero _)))))) (List.cons_ne_nil _ _)) rfl ?_ | refine TL.run1 (pure_fieldAddr_own Ty.f36_1 rfl) rfl ?_
            refine TL.storeRow (es := 6) (i := i) (o := 5) (c' := encR (mrgR a (i : Nat) (rAt rs (i : Nat)))) rfl hgo (by omega) rfl (.one rfl) Try.sizeOf34 rfl (by repeat (first | exact UpdR.here _ | apply UpdR.there)) hx (by repeat (first | exact PutR.nil _ | apply PutR.here | apply PutR.skip)) ?_
            rw [← rowsY_step rs vs (fun (j : Nat) => mrgR a (j : Nat) (rAt rs (j : Nat))) T i hil (by omega)]
            refine TL.nil ?_
            refine block_normal ?_
            refine then_normal ?_
            refine TC.region ?_
            refine TL.run1 (pure_move rfl) rfl ?_
            refine TL.run1 (pure_add rfl rfl (mkI64 (by omega) (by omega))) rfl ?_
            refine TL.run1 (pure_assign rfl) rfl ?_
            refine TL.nil ?_
            refine loop_next (i + 1, E) ⟨by ((try dsimp only); rw [show (((i + 1 : Nat)) : Int) = (i : Int) + 1 by omega]; repeat (first | exact Agree.nil | refine Agree.cons rfl ?_)), by (try dsimp only); repeat (first | exact List.nil_sublist _ | exact List.Sublist.refl _ | apply List.Sublist.cons_cons | apply List.Sublist.cons)⟩ ⟨by omega, by omega, ?_, ?_⟩ (by (try dsimp only); omega)
            · rw [show (((i + 1 : Nat)) : Int) = (i : Int) + 1 by omega, ← FillTo.row, k2]; exact Iff.rfl
            · intro j q1 q2
              rcases Int.lt_or_eq_of_le (show j ≤ i by omega) with h | h
              · exact hfl j q1 h
              · rw [h]; exact hrowf
      · try dsimp only at hc42
        refine TC.exit ?_
        refine then_exit ?_
        refine loop_exit ?_
        refine block_here ?_
        refine then_normal ?_
        refine TC.seq ?_
        refine TC.seq ?_
        have hie : i = B := by omega
        subst hie
        have hful : FullA rs a := fun j q1 q2 => hfl j q1 (by omega)
        have hFA : F = true ↔ FillA rs a := by (rw [hF, ← FillTo.all, hB2])
        have hyl := rowsY_len rs vs (fun (j : Nat) => mrgR a (j : Nat) (rAt rs (j : Nat))) T i
        refine TC.region ?_
        refine TL.run1 (pure_move rfl) rfl ?_
        refine TL.nil' ?_
        first | refine TC.condD rfl (fun hc147 => ?_) (fun hc147 => ?_) | refine TC.condN rfl (fun hc147 => ?_) (fun hc147 => ?_) | refine TC.cond rfl (fun hc147 => ?_) (fun hc147 => ?_)
        · try dsimp only at hc147
          refine TC.seq ?_
          refine TC.region ?_
          refine TL.run1 (pure_assign rfl) rfl ?_
          refine TL.le 4 rfl (Le.nil 6) ?_
          refine TL.run1 (pure_assign rfl) rfl ?_
          refine TL.nil' ?_
          refine TC.ret ?_
          refine then_ret ?_
          have hE := mrgE_4 hin hcv hful (hFA.1 hc147)
          rw [mrgV_bad (by rw [hE]; decide), hE]
          exact retF2 (.inl rfl) rfl rfl (.tupL (.cons (.same _) (.cons (.same _) .nil)))
        · try dsimp only at hc147
          refine TC.skip' ?_
          refine TC.seq ?_
          refine TC.regionCut [148, 149, 150, 151, 152, 153, 154, 155, 156, 157, 158, 159, 160] 160 (a.b > a.t + 1 ∧ a.b < rs.length) ?_ ?_
          · skip
            first | refine TL.run1 (pure_fieldAddr Ty.f38_2 rfl (.succ (.succ (.zero _))) (List.cons_ne_nil _ _)) rfl ?_ | refine TL.run1 (pure_fieldAddr_own Ty.f38_2 rfl) rfl ?_
            first | refine TL.run1 (pure_load1 Ty.one3 rfl) rfl ?_ | refine TL.run1 (pure_load1_own Ty.one3 rfl (by repeat (first | exact List.Mem.head _ | apply List.Mem.tail)) (by repeat (first | exact DropR.zero _ | apply DropR.succ))) rfl ?_
            first | refine TL.run1 (pure_fieldAddr Ty.f38_0 rfl (.zero _) (List.cons_ne_nil _ _)) rfl ?_ | refine TL.run1 (pure_fieldAddr_own Ty.f38_0 rfl) rfl ?_
            first | refine TL.run1 (pure_load1 Ty.one3 rfl) rfl ?_ | refine TL.run1 (pure_load1_own Ty.one3 rfl (by repeat (first | exact List.Mem.head _ | apply List.Mem.tail)) (by repeat (first | exact DropR.zero _ | apply DropR.succ))) rfl ?_
            refine TL.run1 (pure_add rfl rfl (mkI64 (by omega) (by omega))) rfl ?_
            refine TL.run1 (pure_gtr rfl rfl) rfl ?_
            refine TL.run1 (pure_move rfl) rfl ?_
            first | refine TL.splitP 154 rfl (fun hg154 => ?_) (fun hg154 => ?_) | refine TL.split 154 rfl (fun hg154 => ?_) (fun hg154 => ?_)
            · try dsimp only at hg154
              first | refine TL.runG rfl rfl (pure_fieldAddr Ty.f38_2 rfl (.succ (.succ (.zero _))) (List.cons_ne_nil _ _)) rfl ?_ | refine TL.runG rfl rfl (pure_fieldAddr_own Ty.f38_2 rfl) rfl ?_
              first | refine TL.runG rfl rfl (pure_load1 Ty.one3 rfl) rfl ?_ | refine TL.runG rfl rfl (pure_load1_own Ty.one3 rfl (by repeat (first | exact List.Mem.head _ | apply List.Mem.tail)) (by repeat (first | exact DropR.zero _ | apply DropR.succ))) rfl ?_
              refine TL.runG rfl rfl (pure_move rfl) rfl ?_
              first | refine TL.runG rfl rfl (pure_len Ty.sl22 rfl) rfl ?_ | refine TL.runG rfl rfl (pure_len_row Ty.sl22 rfl (by repeat (first | exact List.Mem.head _ | apply List.Mem.tail))) rfl ?_ | refine TL.runG rfl rfl (pure_len_nil Ty.sl22 rfl) rfl ?_
              refine TL.runG rfl rfl (pure_lss rfl rfl) rfl ?_
              refine TL.run1 (pure_pick_true rfl rfl) rfl ?_
              refine TL.cutEnd (by repeat (first | exact Same.refl _ _ | refine Same.put rfl ?_)) rfl ?_
              first | (simp_all; done) | (simp_all; omega) | grind
            · try dsimp only at hg154
              refine TL.passG rfl rfl rfl rfl ?_
              refine TL.passG rfl rfl rfl rfl ?_
              refine TL.passG rfl rfl rfl rfl ?_
              refine TL.passG rfl rfl rfl rfl ?_
              refine TL.passG rfl rfl rfl rfl ?_
              refine TL.run1 (pure_pick_false rfl rfl) rfl ?_
              refine TL.cutEnd (by repeat (first | exact Same.refl _ _ | refine Same.put rfl ?_)) rfl ?_
              first | (simp_all; done) | (simp_all; omega) | grind
          first | refine TC.condD rfl (fun hc160 => ?_) (fun hc160 => ?_) | refine TC.condN rfl (fun hc160 => ?_) (fun hc160 => ?_) | refine TC.cond rfl (fun hc160 => ?_) (fun hc160 => ?_)
          · try dsimp only at hc160
            have hil : i < rs.length := by omega
            have hrowB : (encRs rs)[a.b.toNat]? = some (encR (rAt rs (i : Nat))) := by (rw [hB2]; exact encRs_get rs (i : Int) (by omega) (by omega))
            have hroB := hr.1 (rAt rs (i : Nat)) (rAt_mem rs (i : Int) (by omega) (by omega))
            have hrl := hroB.2.2
            have hsl : (spansR (rAt rs (i : Nat))).length = (rAt rs (i : Nat)).cells.length := spansFrom_len _ _
            have hse := encS_len (spansR (rAt rs (i : Nat)))
            have hck := encCs_len (rAt rs (i : Nat)).cells
            have hx := rowsY_at rs vs (fun (j : Nat) => mrgR a (j : Nat) (rAt rs (j : Nat))) T i i hil (by omega)
            refine TC.seq ?_
            rw [inB_drop rs vs i (by omega) hvl, List.cons_append]
            refine TC.perm (List.Perm.swap _ _ _) ?_
            have hz := fixTo_zero a (rAt rs (i : Nat))
            refine TC.region ?_
            refine TL.run1 (pure_move rfl) rfl ?_
            first | refine TL.run1 (pure_fieldAddr Ty.f38_2 rfl (.succ (.succ (.zero _))) (List.cons_ne_nil _ _)) rfl ?_ | refine TL.run1 (pure_fieldAddr_own Ty.f38_2 rfl) rfl ?_
            first | refine TL.run1 (pure_load1 Ty.one3 rfl) rfl ?_ | refine TL.run1 (pure_load1_own Ty.one3 rfl (by repeat (first | exact List.Mem.head _ | apply List.Mem.tail)) (by repeat (first | exact DropR.zero _ | apply DropR.succ))) rfl ?_
            refine TL.run1 (pure_indexAddr Ty.sl22 rfl rfl (by omega) hrowB (by simp [encR])) rfl ?_
            first | refine TL.run1 (pure_load Ty.agg36 rfl (.succ (.succ (.succ (.succ (.succ (.succ (.zero _)))))))) rfl ?_ | refine TL.run1 (pure_load_own Ty.agg36 rfl (by repeat (first | exact List.Mem.head _ | apply List.Mem.tail)) (by repeat (first | exact DropR.zero _ | apply DropR.succ)) (.succ (.succ (.succ (.succ (.succ (.succ (.zero _)))))))) rfl ?_
            first | refine TL.run1 (pure_call (spans_spec _ hro) (.cons rfl .nil) Try.call39) rfl ?_ | refine TL.run1 (pure_call (spans_spec _ hroB) (.cons rfl .nil) Try.call39) rfl ?_
            first | refine TL.run1 (pure_len Ty.sl44 rfl) rfl ?_ | refine TL.run1 (pure_len_row Ty.sl44 rfl (by repeat (first | exact List.Mem.head _ | apply List.Mem.tail))) rfl ?_ | refine TL.run1 (pure_len_nil Ty.sl44 rfl) rfl ?_
            refine TL.run1 (pure_move rfl) rfl ?_
            refine TL.nil' ?_
            refine TC.block ?_
            refine TC.loopX (X := Nat) (fun k => [(0, .sl 6 (encRs rs)), (3, .at_ [.v (.int .i64 a.t), .v (.int .i64 a.l), .v (.int .i64 a.b), .v (.int .i64 a.r)]), (8, .v v8), (166, .sl 2 (encS (spansR (rAt rs (i : Nat))))), (167, .v (.int .i64 (encS (spansR (rAt rs (i : Nat)))).length)), (168, .v (.int .i64 k))]) (fun k => (Blk.row (vAt vs i) 74 7 (encCs (fixTo a (rAt rs (i : Nat)) k)) :: Blk.row v8 36 6 (rowsY rs vs (fun (j : Nat) => mrgR a (j : Nat) (rAt rs (j : Nat))) T i) :: (inB (rs.drop (i + 1)) (vs.drop (i + 1)) ++ inB (rs.take T) (vs.take T)))) (fun k => (k ≤ (rAt rs (i : Nat)).cells.length)) (fun k => (rAt rs (i : Nat)).cells.length - k) (0) ⟨by (try dsimp only); repeat (first | exact Agree.nil | refine Agree.cons rfl ?_), by (try dsimp only); rw [hz]; repeat (first | exact List.nil_sublist _ | exact List.Sublist.refl _ | apply List.Sublist.cons_cons | apply List.Sublist.cons)⟩ ?_ ?_
            · skip
              exact Nat.zero_le _
            intro k
            intro k1
            show TC _ _ _ (Env.of [(0, .sl 6 (encRs rs)), (3, .at_ [.v (.int .i64 a.t), .v (.int .i64 a.l), .v (.int .i64 a.b), .v (.int .i64 a.r)]), (8, .v v8), (166, .sl 2 (encS (spansR (rAt rs (i : Nat))))), (167, .v (.int .i64 (encS (spansR (rAt rs (i : Nat)))).length)), (168, .v (.int .i64 k))]) (Blk.row (vAt vs i) 74 7 (encCs (fixTo a (rAt rs (i : Nat)) k)) :: Blk.row v8 36 6 (rowsY rs vs (fun (j : Nat) => mrgR a (j : Nat) (rAt rs (j : Nat))) T i) :: (inB (rs.drop (i + 1)) (vs.drop (i + 1)) ++ inB (rs.take T) (vs.take T)))
            refine TC.seq ?_
            refine TC.region ?_
            refine TL.run1 (pure_lss rfl rfl) rfl ?_
            refine TL.nil' ?_
            refine TC.seq ?_
            first | refine TC.condD rfl (fun hc169 => ?_) (fun hc169 => ?_) | refine TC.condN rfl (fun hc169 => ?_) (fun hc169 => ?_) | refine TC.cond rfl (fun hc169 => ?_) (fun hc169 => ?_)
            · try dsimp only at hc169
              have hkl : k < (rAt rs (i : Nat)).cells.length := by omega
              have hsp := encS_get (spansR (rAt rs (i : Nat))) (k : Int) (by omega) (by omega)
              obtain ⟨hci, hcl⟩ := hroB.1 (cAt (rAt rs (i : Nat)).cells (k : Nat)) (cAt_mem (rAt rs (i : Nat)).cells (k : Int) (by omega) (by omega))
              have hfl3 := fixTo_len a (rAt rs (i : Nat)) k
              have hfe := encCs_len (fixTo a (rAt rs (i : Nat)) k)
              have hx2 : (encCs (fixTo a (rAt rs (i : Nat)) k))[k]? = some (encC (cAt (rAt rs (i : Nat)).cells (k : Nat))) := by (unfold encCs; rw [List.getElem?_map, fixTo_at a (rAt rs (i : Nat)) k hkl]; rfl)
              refine TC.skip' ?_
              refine TC.seq ?_
              refine TC.block ?_
              refine TC.seq ?_
              refine TC.region ?_
              refine TL.run1 (pure_move rfl) rfl ?_
              refine TL.run1 (pure_indexAddr Ty.sl44 rfl rfl (by omega) hsp (List.cons_ne_nil _ _)) rfl ?_
              first | refine TL.run1 (pure_load Ty.agg51 rfl (.succ (.succ (.zero _)))) rfl ?_ | refine TL.run1 (pure_load_own Ty.agg51 rfl (by repeat (first | exact List.Mem.head _ | apply List.Mem.tail)) (by repeat (first | exact DropR.zero _ | apply DropR.succ)) (.succ (.succ (.zero _)))) rfl ?_
              refine TL.alloc Ty.zero51 rfl (fun g19 => ?_)
              refine TL.run1 (pure_assign rfl) rfl ?_
              refine TL.store rfl rfl (.agg _) Try.sizeOf51 rfl (by repeat (first | exact UpdR.here _ | apply UpdR.there)) (by repeat (first | exact PutR.nil _ | apply PutR.here | apply PutR.skip)) ?_
              refine TL.nil' ?_
              refine TC.seq ?_
              refine TC.freezeBox 19 (List.cons_ne_nil _ _) (.here _) rfl ?_
              refine TC.region ?_
              refine TL.run1 (pure_move rfl) rfl ?_
              first | refine TL.run1 (pure_fieldAddr Ty.f38_2 rfl (.succ (.succ (.zero _))) (List.cons_ne_nil _ _)) rfl ?_ | refine TL.run1 (pure_fieldAddr_own Ty.f38_2 rfl) rfl ?_
              first | refine TL.run1 (pure_load1 Ty.one3 rfl) rfl ?_ | refine TL.run1 (pure_load1_own Ty.one3 rfl (by repeat (first | exact List.Mem.head _ | apply List.Mem.tail)) (by repeat (first | exact DropR.zero _ | apply DropR.succ))) rfl ?_
              refine TL.indexRow Ty.sl22 rfl rfl (by repeat (first | exact List.Mem.head _ | apply List.Mem.tail)) (by omega) (by rw [rowsY_len]; omega) rfl (fun go hgo => ?_)
              first | refine TL.run1 (pure_fieldAddr Ty.f36_1 rfl (.succ (.succ (.succ (.succ (.succ (.zero _)))))) (List.cons_ne_nil _ _)) rfl ?_ | refine TL.run1 (pure_fieldAddr_own Ty.f36_1 rfl) rfl ?_
              refine TL.run1 (pure_load1_row (es := 6) (i := i) (o := 5) Ty.one34 (by decide) rfl hgo (by repeat (first | exact List.Mem.head _ | apply List.Mem.tail)) (by omega) hx (by repeat (first | exact DropR.zero _ | apply DropR.succ))) rfl ?_
              refine TL.run1 (pure_move rfl) rfl ?_
              refine TL.indexRow Ty.sl34 rfl rfl (by repeat (first | exact List.Mem.head _ | apply List.Mem.tail)) (by omega) (by omega) rfl (fun gi hgi => ?_)
              refine TL.run1 (pure_assign rfl) rfl ?_
              refine TL.nil' ?_
              refine TC.regionCut [181, 182, 183, 184, 185, 186, 187, 188, 189, 190, 191, 192, 193, 194] 194 (sAt (spansR (rAt rs (i : Nat))) (k : Nat) = (a.l, a.r) ∧ mergedN (cAt (rAt rs (i : Nat)).cells (k : Nat)) = 2) ?_ ?_
              · skip
                first | refine TL.run1 (pure_load Ty.agg51 rfl (.succ (.succ (.zero _)))) rfl ?_ | refine TL.run1 (pure_load_own Ty.agg51 rfl (by repeat (first | exact List.Mem.head _ | apply List.Mem.tail)) (by repeat (first | exact DropR.zero _ | apply DropR.succ)) (.succ (.succ (.zero _)))) rfl ?_
                first | refine TL.run1 (pure_fieldAddr Ty.f38_1 rfl (.succ (.zero _)) (List.cons_ne_nil _ _)) rfl ?_ | refine TL.run1 (pure_fieldAddr_own Ty.f38_1 rfl) rfl ?_
                first | refine TL.run1 (pure_load1 Ty.one3 rfl) rfl ?_ | refine TL.run1 (pure_load1_own Ty.one3 rfl (by repeat (first | exact List.Mem.head _ | apply List.Mem.tail)) (by repeat (first | exact DropR.zero _ | apply DropR.succ))) rfl ?_
                first | refine TL.run1 (pure_fieldAddr Ty.f38_3 rfl (.succ (.succ (.succ (.zero _)))) (List.cons_ne_nil _ _)) rfl ?_ | refine TL.run1 (pure_fieldAddr_own Ty.f38_3 rfl) rfl ?_
                first | refine TL.run1 (pure_load1 Ty.one3 rfl) rfl ?_ | refine TL.run1 (pure_load1_own Ty.one3 rfl (by repeat (first | exact List.Mem.head _ | apply List.Mem.tail)) (by repeat (first | exact DropR.zero _ | apply DropR.succ))) rfl ?_
                refine TL.run1 (pure_build Ty.pl51 Ty.zero51 (.cons rfl rfl (.one rfl) rfl (.here (.nil _)) (.cons rfl rfl (.one rfl) rfl (.skip (.here (.nil _))) (.nil _)))) rfl ?_
                refine TL.run1 (pure_eql_agg Ty.eq51 rfl rfl (.cons (.cons .nil)) (.cons (.cons .nil)) rfl rfl) rfl ?_
                refine TL.run1 (pure_move rfl) rfl ?_
                first | refine TL.splitP 188 rfl (fun hg188 => ?_) (fun hg188 => ?_) | refine TL.split 188 rfl (fun hg188 => ?_) (fun hg188 => ?_)
                · try dsimp only at hg188
                  refine TL.runG rfl rfl (pure_move rfl) rfl ?_
                  first | refine TL.runG rfl rfl (pure_nilCheck rfl) rfl ?_ | refine TL.runG rfl rfl (pure_nilCheck_own rfl) rfl ?_
                  refine TL.runG rfl rfl (pure_load_row (es := 7) (i := k) (o := 0) Ty.agg74 (by decide) rfl hgi (by repeat (first | exact List.Mem.head _ | apply List.Mem.tail)) (by omega) hx2 (.zero _) (.succ (.succ (.succ (.succ (.succ (.succ (.succ (.zero _))))))))) rfl ?_
                  refine TL.runG rfl rfl (pure_call (merged_spec _ ⟨hci, hcl⟩) (.cons rfl .nil) Try.call52) rfl ?_
                  refine TL.runG rfl rfl (pure_eql rfl rfl) rfl ?_
                  refine TL.run1 (pure_pick_true rfl rfl) rfl ?_
                  refine TL.cutEnd (by repeat (first | exact Same.refl _ _ | refine Same.put rfl ?_)) rfl ?_
                  rw [Prod.ext_iff]
                  first | (simp_all; done) | (simp_all; omega) | grind
                · try dsimp only at hg188
                  refine TL.passG rfl rfl rfl rfl ?_
                  refine TL.passG rfl rfl rfl rfl ?_
                  refine TL.passG rfl rfl rfl rfl ?_
                  refine TL.passG rfl rfl rfl rfl ?_
                  refine TL.passG rfl rfl rfl rfl ?_
                  refine TL.run1 (pure_pick_false rfl rfl) rfl ?_
                  refine TL.cutEnd (by repeat (first | exact Same.refl _ _ | refine Same.put rfl ?_)) rfl ?_
                  rw [Prod.ext_iff]
                  first | (simp_all; done) | (simp_all; omega) | grind
              first | refine TC.condD rfl (fun hc194 => ?_) (fun hc194 => ?_) | refine TC.condN rfl (fun hc194 => ?_) (fun hc194 => ?_) | refine TC.cond rfl (fun hc194 => ?_) (fun hc194 => ?_)
              · try dsimp only at hc194
                have hfx : fixC a (rAt rs (i : Nat)) k = putC (cAt (rAt rs (i : Nat)).cells (k : Nat)) 61 1 0 := by (unfold fixC; rw [if_pos hc194])
                refine TC.region ?_
                refine TL.run1 (pure_move rfl) rfl ?_
                refine TL.callD (.left (SplitR.none _)) (putR_spec (encCs (fixTo a (rAt rs (i : Nat)) k)) (vAt vs i) gi _ k (cAt (rAt rs (i : Nat)).cells (k : Nat)) 61 1 0 hgi (by omega) hx2 hci hcl) (.cons rfl (.cons rfl (.cons rfl (.cons rfl .nil)))) Try.call46 (fun t ht => by cases ht; exact of_decide_eq_true rfl) ?_
                rintro r2 H2 rfl
                simp only [List.cons_append, List.nil_append]
                refine TL.nil ?_
                refine block_normal ?_
                refine then_normal ?_
                refine TC.region ?_
                refine TL.run1 (pure_add rfl rfl (mkI64 (by omega) (by omega))) rfl ?_
                refine TL.run1 (pure_move rfl) rfl ?_
                refine TL.nil ?_
                refine loop_next (k + 1) ⟨by ((try dsimp only); repeat (first | exact Agree.nil | refine Agree.cons rfl ?_)), by (try dsimp only); rw [fixTo_step a (rAt rs (i : Nat)) k hkl, encCs_set, hfx]; repeat (first | exact List.nil_sublist _ | exact List.Sublist.refl _ | apply List.Sublist.cons_cons | apply List.Sublist.cons)⟩ (show k + 1 ≤ _ by omega) (by (try dsimp only); omega)
              · try dsimp only at hc194
                refine TC.skip ?_
                refine block_normal ?_
                refine then_normal ?_
                refine TC.region ?_
                refine TL.run1 (pure_add rfl rfl (mkI64 (by omega) (by omega))) rfl ?_
                refine TL.run1 (pure_move rfl) rfl ?_
                refine TL.nil ?_
                refine loop_next (k + 1) ⟨by ((try dsimp only); repeat (first | exact Agree.nil | refine Agree.cons rfl ?_)), by (try dsimp only); rw [fixTo_same a (rAt rs (i : Nat)) k hkl hc194]; repeat (first | exact List.nil_sublist _ | exact List.Sublist.refl _ | apply List.Sublist.cons_cons | apply List.Sublist.cons)⟩ (show k + 1 ≤ _ by omega) (by (try dsimp only); omega)
            · try dsimp only at hc169
              refine TC.exit ?_
              refine then_exit ?_
              refine loop_exit ?_
              refine block_here ?_
              refine then_normal ?_
              refine TC.seq ?_
              refine TC.region ?_
              refine TL.run1 (pure_move rfl) rfl ?_
              refine TL.run1 (pure_assign rfl) rfl ?_
              refine TL.run1 (pure_assign rfl) rfl ?_
              refine TL.nil' ?_
              refine TC.ret ?_
              have hE := mrgE_5 hin hcv hful (fun h => by rw [hFA.2 h] at hc147; cases hc147)
              rw [mrgV_ok hE, hE]
              have hke : k = (rAt rs (i : Nat)).cells.length := by omega
              subst hke
              rw [← mrgT_tab2 hT hB2 hc160.1 hil]
              refine retF2 (.inl rfl) rfl rfl (.tupL (.cons (rowsY_frz rs (rs.set i (fixR a (rAt rs (i : Nat)))) vs _ T i v8 (by repeat (first | exact List.Mem.head _ | apply List.Mem.tail)) (List.length_set ..) (fun j x => set_head rs i (fixR a (rAt rs (i : Nat))) (fun _ => rfl) j x hil) (fun j hj hc => ?_)) (.cons (.same _) .nil)))
              by_cases he : j = i
              · subst he
                have e : rAt (rs.set j (fixR a (rAt rs (j : Nat)))) (j : Nat) = fixR a (rAt rs (j : Nat)) := by simp [rAt, hil]
                rw [e]; exact List.mem_cons_self
              · have e : rAt (rs.set i (fixR a (rAt rs (i : Nat)))) (j : Nat) = rAt rs (j : Nat) := by simp [rAt, List.getElem?_set, Ne.symm he]
                rw [e]; exact List.mem_cons_of_mem _ (List.mem_cons_of_mem _ (inB_mem rs vs j hj hvl (by omega)))
          · try dsimp only at hc160
            refine TC.skip' ?_
            refine TC.seq ?_
            refine TC.region ?_
            refine TL.run1 (pure_move rfl) rfl ?_
            refine TL.run1 (pure_assign rfl) rfl ?_
            refine TL.run1 (pure_assign rfl) rfl ?_
            refine TL.nil' ?_
            refine TC.ret ?_
            have hE := mrgE_5 hin hcv hful (fun h => by rw [hFA.2 h] at hc147; cases hc147)
            rw [mrgV_ok hE, hE]
            rw [← mrgT_tab hT hB2 hc160]
            exact retF2 (.inl rfl) rfl rfl (.tupL (.cons (rowsY_frz rs rs vs _ T i v8 List.mem_cons_self rfl (fun _ _ => rfl) (fun j hj hc => List.mem_cons_of_mem _ (inB_mem rs vs j hj hvl hc))) (.cons (.same _) .nil)))
end Go.Ob
set_option linter.unusedVariables false
set_option linter.unusedSimpArgs false
namespace Go.Ob
open Go.Proofs
open Go.RowKit
theorem takeWhile_no {α : Type} {f : α → Bool} {p : α} (hp : f p = false) : ∀ (X : List α), (X ++ [p]).takeWhile f = X.takeWhile f ∧ (X ++ [p]).dropWhile f = X.dropWhile f ++ [p]
  | [] => by simp [hp]
  | x :: X => by
    obtain ⟨h1, h2⟩ := takeWhile_no hp X
    cases hx : f x <;> simp [hx, h1, h2]
theorem takeWhile_yes {α : Type} {f : α → Bool} : ∀ {X : List α}, (∀ x ∈ X, f x = true) → X.takeWhile f = X ∧ X.dropWhile f = []
  | [], _ => by simp
  | x :: X, h => by
    obtain ⟨h1, h2⟩ := takeWhile_yes (X := X) fun y hy => h y (by simp [hy])
    simp [h x (by simp), h1, h2]
theorem clearP_lt {l : List (Int × Int)} {key : Int} (h : ∀ p ∈ l, p.1 < key) : clearP l key = l := by
  unfold clearP
  rw [List.filter_eq_self]
  intro p hp
  have := h p hp
  simp; omega
theorem clearP_snoc (l : List (Int × Int)) (p : Int × Int) (key : Int) : clearP (l ++ [p]) key = clearP l key ++ (if p.1 ≠ key then [p] else []) := by
  unfold clearP
  rw [List.filter_append]
  by_cases h : p.1 = key <;> simp [h]
theorem setP_lt {l : List (Int × Int)} {key : Int} (h : ∀ p ∈ l, p.1 < key) (v : Int) : setP l key v = l ++ [(key, v)] := by
  unfold setP
  rw [clearP_lt h]
  obtain ⟨h1, h2⟩ := takeWhile_yes (f := fun p : Int × Int => decide (p.1 < key)) (X := l) fun p hp => decide_eq_true (h p hp)
  rw [h1, h2]
theorem setP_first {l : List (Int × Int)} {p : Int × Int} {key : Int} (h : ∀ p ∈ l, p.1 < key) (hp : ¬ p.1 < key) (v : Int) : setP (l ++ [p]) key v = l ++ [(key, v)] ++ (if p.1 ≠ key then [p] else []) := by
  unfold setP
  rw [clearP_snoc, clearP_lt h]
  obtain ⟨h1, h2⟩ := takeWhile_yes (f := fun p : Int × Int => decide (p.1 < key)) (X := l) fun p hp => decide_eq_true (h p hp)
  by_cases hk : p.1 ≠ key
  · rw [if_pos hk]
    obtain ⟨h3, h4⟩ := takeWhile_no (f := fun p : Int × Int => decide (p.1 < key)) (p := p) (decide_eq_false hp) l
    rw [h3, h4, h1, h2]; simp
  · rw [if_neg hk, List.append_nil, h1, h2]; simp
theorem setP_snoc {l : List (Int × Int)} {p : Int × Int} {key : Int} (hp : key < p.1) (v : Int) : setP (l ++ [p]) key v = setP l key v ++ [p] := by
  unfold setP
  rw [clearP_snoc, if_pos (by omega)]
  obtain ⟨h3, h4⟩ := takeWhile_no (f := fun p : Int × Int => decide (p.1 < key)) (p := p) (decide_eq_false (by omega)) (clearP l key)
  rw [h3, h4]; simp
theorem setTo_set {ps : List (Int × Int)} (hinc : Inc (keysP ps)) (key v u : Int) (hv : v ≠ u) : ∀ (i : Nat), i ≤ ps.length →
    ((∀ p ∈ ps.take i, p.1 < key) → setTo ps key v u i = (ps.take i, false)) ∧ (¬ (∀ p ∈ ps.take i, p.1 < key) → setTo ps key v u i = (setP (ps.take i) key v, true))
  | 0, _ => ⟨fun _ => by simp [setTo, hv], fun h => absurd (fun p hp => by simp at hp) h⟩
  | i + 1, h => by
    obtain ⟨h1, h2⟩ := setTo_set hinc key v u hv i (by omega)
    have e : pAt ps (i : Nat) = ps[i] := by simp [pAt, show i < ps.length by omega]
    have et : ps.take (i + 1) = ps.take i ++ [ps[i]] := by rw [List.take_add_one, List.getElem?_eq_getElem (by omega)]; rfl
    rw [setTo, et, e]
    have hinc2 : Inc (keysP (ps.take i ++ [ps[i]])) := by
      rw [← et]
      have := (Inc.append (a := ps.take (i + 1)) (b := ps.drop (i + 1))).1 (by rw [List.take_append_drop]; exact hinc)
      exact this.1
    generalize ps[i] = p at *
    generalize ps.take i = X at *
    by_cases ha : ∀ p ∈ X, p.1 < key
    · rw [h1 ha]
      constructor
      · intro hb
        have := hb p (by simp)
        simp [setStep, show ¬ key ≤ p.1 by omega, show ¬ p.1 = key by omega]
      · intro hb
        have hp : ¬ p.1 < key := fun hl => hb fun q hq => by
          rcases List.mem_append.1 hq with h | h
          · exact ha q h
          · rw [List.mem_singleton] at h; rw [h]; exact hl
        rw [setP_first ha hp]
        by_cases hk : p.1 = key
        · simp [setStep, show key ≤ p.1 by omega, hk]
        · simp [setStep, show key ≤ p.1 by omega, hk]
    · rw [h2 ha]
      have hp : key < p.1 := by
        obtain ⟨q, hq⟩ := Classical.not_forall.1 ha
        obtain ⟨hq1, hq2⟩ := Classical.not_imp.1 hq
        have := (Inc.append.1 hinc2).2.2 q hq1 p (by simp)
        omega
      refine ⟨fun hb => absurd (fun p hp => hb p (by simp [hp])) ha, fun _ => ?_⟩
      rw [setP_snoc hp]
      simp [setStep, show ¬ p.1 = key by omega]
theorem setR_put {ps : List (Int × Int)} (hinc : Inc (keysP ps)) (key v u : Int) : setR ps key v u = putP ps key v u := by
  unfold putP
  by_cases hv : v = u
  · subst hv
    rw [if_pos rfl, setR_clear]
  · rw [if_neg hv]
    obtain ⟨h1, h2⟩ := setTo_set hinc key v u hv ps.length (Nat.le_refl _)
    rw [List.take_length] at h1 h2
    unfold setR
    by_cases ha : ∀ p ∈ ps, p.1 < key
    · rw [h1 ha, if_pos rfl, setP_lt ha]
    · rw [h2 ha, if_neg (by simp)]
theorem setPut_spec (ps : List (Int × Int)) (hinc : Inc (keysP ps)) (key v u : Int) (hl : ps.length ≤ 1000) : Fun Try.prog 49 [.sl 2 (encP ps), .v (.int .i64 key), .v (.int .i64 v), .v (.int .i64 u)] (.sl 2 (encP (putP ps key v u))) := by
  rw [← setR_put hinc key v u]; exact set_spec ps key v u hl
theorem pure_indexOwn {P : Program} {env : Env} {H : Hp} {dst : Option Tmp} {ty : TypeId} {pos : String} {af : Array Edge} {gd : Option (Nat × Bool)} {x y : Operand} {t e' es g n cap : Nat} {k : IntKind} {i : Int} (ht : SliceT P t e' es) (hx : opD env x = some (.v (RowV g n cap))) (hy : opD env y = some (.v (.int k i))) (h0 : 0 ≤ i) (hi : i < n) :
    Pure P H ⟨dst, .indexAddr t x y, ty, pos, af, gd⟩ env (.v (.pointer (some ⟨g, i.toNat * es, none⟩))) := pure_of fun w _ ρ _ h => by
  have e1 := Rep.of_v (h x (by simp [Op.operands]) _ hx)
  have e2 := Rep.of_v (h y (by simp [Op.operands]) _ hy)
  have ha : (⟨g, 0, none⟩ : Addr).add (i.toNat * es) = ⟨g, i.toNat * es, none⟩ := by rw [own_add, Nat.zero_add]
  exact ⟨_, by simp [execOp, Instr.indexAt, e1, e2, asIntOf, run_underlying ht.under, h0, hi, ht.size, ha], .v _⟩
theorem TC.rowGrown {K : Ctx} {Q : Exit → Env → Hp → Prop} {env : Env} {H : Hp} {c : Code} {v : Value} {e es : Nat} {xs : List (List D)} (hm : Blk.row v e es xs ∈ H) (hne : 0 < xs.length) (h : ∀ g cap, v = RowV g xs.length cap → TC K c Q env H) : TC K c Q env H := fun a w hs => by
  obtain ⟨vals, hown, _⟩ := row_ok hs.heap hm
  rcases hown.2 with ⟨hv, hn⟩ | ⟨g, cap, cur, hv, _⟩
  · rw [hn] at hne; omega
  · exact h g cap hv a w hs
theorem TL.frzRow {K : Ctx} {Q : Exit → Env → Hp → Prop} {env : Env} {H H' : Hp} {ops : Array Oper} {l : List Oper} {v : Value} {e es : Nat} {xs : List (List D)} {d d' : D} (t : Nat) (hd : DelR (.row v e es xs) H H') (ht : env t = some d) (hf : ∀ M : Blk → Prop, M (.row v e es xs) → FrzR M d d') (h : TL K ops l Q (env.put t (some d')) H') : TL K ops l Q env H :=
  fun a w hsat => h a w (hsat.frz hd.sub.1 fun t' x hx => by
    rcases Env.put_some hx with ⟨rfl, ho⟩ | ⟨hne, ho⟩
    · cases ho; exact ⟨d, ht, hf _ ⟨hd.sub.2, hd.apart hsat.heap.apart⟩⟩
    · exact ⟨x, ho, .same x⟩)
theorem mrgT_step (rs : List RowD) (a : A4) (i : Nat) (h : i < rs.length) : encRs ((mrgT rs a).take (i + 1)) = encRs ((mrgT rs a).take i) ++ [encR (mrgI rs a (i : Nat))] := by
  have hl : i < (mrgT rs a).length := by rw [mrgT_len]; exact h
  rw [List.take_add_one, List.getElem?_eq_getElem hl]
  simp [encRs, mrgT]
theorem fix_row {rs : List RowD} {a : A4} {i : Int} (hi : 0 ≤ i) (hi2 : i < rs.length) (hab : a.l < a.r) :
    (0 ≤ sameN (rAt rs i) a.l a.r ∧ getP (cAt (rAt rs i).cells (sameN (rAt rs i) a.l a.r)).props 61 0 = 2 → encCs (fixR a (rAt rs i)).cells = (encCs (rAt rs i).cells).set (sameN (rAt rs i) a.l a.r).toNat (encC (putC (cAt (rAt rs i).cells (sameN (rAt rs i) a.l a.r)) 61 1 0))) ∧
    (¬ (0 ≤ sameN (rAt rs i) a.l a.r ∧ getP (cAt (rAt rs i).cells (sameN (rAt rs i) a.l a.r)).props 61 0 = 2) → fixR a (rAt rs i) = rAt rs i) := by
  have key : ∀ k : Nat, k < (rAt rs i).cells.length → sAt (spansR (rAt rs i)) (k : Nat) = (a.l, a.r) → (k : Int) = sameN (rAt rs i) a.l a.r := fun k hk hs => by
    have hv : Val rs i k := ⟨hi, hi2, by omega, by (show (k : Int) < ((rAt rs i).cells.length : Int)); omega, by unfold spN; rw [hs]; dsimp only; omega⟩
    have := sameN_val hv
    unfold spN at this
    rw [hs] at this
    exact this.symm
  constructor
  · rintro ⟨h0, h1⟩
    have hof := sameN_of (rs := rs) (s := (a.l, a.r)) hi hi2 h0
    obtain ⟨m, hm⟩ : ∃ m : Nat, sameN (rAt rs i) a.l a.r = (m : Int) := ⟨(sameN (rAt rs i) a.l a.r).toNat, by omega⟩
    have hof1 := hof.1; have hof2 := hof.2
    dsimp only at hof1 hof2
    rw [hm] at hof1 hof2 h1 ⊢
    have hml : m < (rAt rs i).cells.length := by have := hof1.2.2.2.1; unfold ncN at this; omega
    rw [Int.toNat_natCast, ← encCs_set]
    congr 1
    apply List.ext_getElem (by simp [fixR, fixTo])
    intro j h2 h3
    have hj : j < (rAt rs i).cells.length := by rw [List.length_set] at h3; exact h3
    rw [List.getElem_set]
    simp only [fixR, fixTo, List.getElem_map, List.getElem_range]
    rw [if_pos hj]
    by_cases he : m = j
    · subst he
      rw [if_pos rfl]
      unfold fixC
      rw [if_pos ⟨hof2, (merged2 _).2 h1⟩]
    · rw [if_neg he]
      unfold fixC
      rw [if_neg (fun h => he (by have := key j hj h.1; omega))]
      simp [cAt, hj]
  · intro hn
    have e : fixTo a (rAt rs i) (rAt rs i).cells.length = (rAt rs i).cells := by
      apply List.ext_getElem (by simp [fixTo])
      intro j h2 h3
      simp only [fixTo, List.getElem_map, List.getElem_range]
      rw [if_pos h3]
      unfold fixC
      rw [if_neg]
      · simp [cAt, h3]
      · rintro ⟨h4, h5⟩
        have := key j h3 h4
        exact hn (by rw [← this]; exact ⟨by omega, (merged2 _).1 h5⟩)
    unfold fixR
    rw [e]
end Go.Ob
