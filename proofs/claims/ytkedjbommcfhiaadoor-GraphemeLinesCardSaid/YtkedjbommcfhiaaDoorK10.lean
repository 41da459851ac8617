import Derived.Test.YtkedjbommcfhiaaDoorK9
import Derived.Test.YtkedjbommcfhiaaDoorN2
set_option linter.unusedVariables false
set_option linter.unusedSimpArgs false
namespace Go.Ob
open Go.Proofs

theorem clS_len (s : ByteArray) : (clS s).length = (cAll (cls s)).length := by simp [clS]
theorem tAt_clS (s : ByteArray) (i : Int) (h0 : 0 ≤ i) (h1 : i < (cAll (cls s)).length) : tAt (clS s) i = subS s ((cAll (cls s)).getD i.toNat (0, 0)) := by
  have : i.toNat < (cAll (cls s)).length := by omega
  simp [tAt, clS, this]
theorem cAll_getD_mem (c : List Int) (i : Nat) (h : i < (cAll c).length) : (cAll c).getD i (0, 0) ∈ cAll c := by
  rw [List.getD_eq_getElem?_getD, List.getElem?_eq_getElem h]
  exact List.getElem_mem h
theorem sub_count {s : ByteArray} (hok : okS s = true) {p : Nat × Nat} (hp : p ∈ cAll (cls s)) : (cluV (subS s p)).length = 1 ∧ errU (subS s p) = 0 := by
  obtain ⟨h1, h2, h3⟩ := cAll_mem hp
  rw [cls_len] at h2
  have ho := okS_sub hok (Nat.le_of_lt h3) h2
  obtain ⟨_, _, _, v4, v5⟩ := okV ho
  unfold subS
  rw [v4, v5, clS_len, cls_sub hok (Nat.le_of_lt h3) h2]
  exact ⟨cluster_one hp, rfl⟩
theorem subS_size (s : ByteArray) (p : Nat × Nat) : (subS s p).size ≤ s.size := by unfold subS; rw [ByteArray.size_extract]; omega
set_option maxRecDepth 100000 in
theorem bytesOf_spec (s : ByteArray) (k : Nat) (hk : k ≤ nR s) : Fun Tryd.prog 22 [.v (.string s), .sl 1 (encI (offs s)), .v (.int .i64 k)] (.v (.int .i64 (rpos s k))) := by
  refine Fun.enter (n := 17) (rs := [.tmp 6]) Tryd.func22 rfl Tryd.ntmps22 Tryd.results22 rfl (fun w F => ?_)
  have hko := encI_len (offs s)
  have hol := offs_len s
  refine TC.seq ?_
  refine TC.region ?_
  refine TL.run1 (pure_assign rfl) rfl ?_
  refine TL.nil' ?_
  refine TC.seq ?_
  refine TC.seq ?_
  refine TC.region ?_
  refine TL.run1 (pure_move rfl) rfl ?_
  refine TL.run1 (pure_move rfl) rfl ?_
  first | refine TL.run1 (pure_len Ty.sl26 rfl) rfl ?_ | refine TL.run1 (pure_len_row Ty.sl26 rfl (by repeat (first | exact List.Mem.head _ | apply List.Mem.tail))) rfl ?_ | refine TL.run1 (pure_len_nil Ty.sl26 rfl) rfl ?_
  refine TL.run1 (pure_lss rfl rfl) rfl ?_
  refine TL.nil' ?_
  first | refine TC.condD rfl (fun hc10 => ?_) (fun hc10 => ?_) | refine TC.condN rfl (fun hc10 => ?_) (fun hc10 => ?_) | refine TC.cond rfl (fun hc10 => ?_) (fun hc10 => ?_)
  · try dsimp only at hc10
    have hrow := encI_get (offs s) k (by omega) (by omega)
    have hik : iAt (offs s) k = rpos s k := by (unfold iAt offs offsTo; rw [Int.toNat_natCast]; simp [show k < nR s by omega])
    rw [hik] at hrow
    refine TC.seq ?_
    refine TC.region ?_
    refine TL.run1 (pure_move rfl) rfl ?_
    refine TL.run1 (pure_move rfl) rfl ?_
    refine TL.run1 (pure_indexAddr Ty.sl26 rfl rfl (by omega) (by assumption) (List.cons_ne_nil _ _)) rfl ?_
    first | refine TL.run1 (pure_load1 Ty.one3 rfl) rfl ?_ | refine TL.run1 (pure_load1_own Ty.one3 rfl (by repeat (first | exact List.Mem.head _ | apply List.Mem.tail)) (by repeat (first | exact DropR.zero _ | apply DropR.succ))) rfl ?_
    refine TL.run1 (pure_assign rfl) rfl ?_
    refine TL.nil' ?_
    refine TC.ret ?_
    refine then_ret ?_
    exact ret_int rfl rfl
  · try dsimp only at hc10
    refine TC.skip' ?_
    refine TC.seq ?_
    refine TC.region ?_
    refine TL.run1 (pure_move rfl) rfl ?_
    refine TL.run1 (pure_len_str Tryd.underlying9 rfl) rfl ?_
    refine TL.run1 (pure_assign rfl) rfl ?_
    refine TL.nil' ?_
    refine TC.ret ?_
    exact ret_int rfl (by rw [show k = nR s by omega, nR_end])
set_option maxRecDepth 100000 in
theorem GraphemeClusters_spec (s : ByteArray) : Fun Tryd.prog 5 [.v (.string s)] (.v (.bool true)) := by
  refine Fun.enter (n := 117) (rs := [.tmp 2]) Tryd.func5 rfl Tryd.ntmps5 Tryd.results5 rfl (fun w F => ?_)
  refine TC.seq ?_
  refine TC.region ?_
  refine TL.run1 (pure_assign rfl) rfl ?_
  refine TL.nil' ?_
  refine TC.seq ?_
  refine TC.region ?_
  refine TL.run1 (pure_move rfl) rfl ?_
  refine TL.run1 (pure_call (cut_spec s) (.cons rfl .nil) Tryd.call15) rfl ?_
  refine TL.run1 (pure_assign rfl) rfl ?_
  refine TL.nil' ?_
  refine TC.seq ?_
  obtain ⟨c, hcd⟩ : ∃ c, cutS s = c := ⟨_, rfl⟩
  rw [hcd]
  have hcs : c.size ≤ 300 := hcd ▸ cutS_size s
  have hnl := nR_le c
  have hbl : (bnds (cls c)).length = (cAll (cls c)).length + 1 := ends_len _
  have hcl := cAll_len_le (cls c)
  rw [cls_len] at hcl
  refine TC.region ?_
  refine TL.run1 (pure_move rfl) rfl ?_
  refine TL.run1 (pure_call (Clusters_spec c (by omega)) (.cons rfl .nil) Tryd.call20) rfl ?_
  refine TL.run1 (pure_move rfl) rfl ?_
  refine TL.run1 (pure_extract rfl rfl) rfl ?_
  refine TL.run1 (pure_extract rfl rfl) rfl ?_
  refine TL.run1 (pure_assign rfl) rfl ?_
  refine TL.run1 (pure_assign rfl) rfl ?_
  refine TL.nil' ?_
  refine TC.seq ?_
  refine TC.region ?_
  refine TL.run1 (pure_move rfl) rfl ?_
  first | refine TL.run1 (pure_call (Count_spec c (by omega)) (.cons rfl .nil) Tryd.call21) rfl ?_ | refine TL.run1 (pure_call (Count_spec (subS c p) (by have := subS_size c p; omega)) (.cons rfl .nil) Tryd.call21) rfl ?_
  refine TL.run1 (pure_move rfl) rfl ?_
  refine TL.run1 (pure_extract rfl rfl) rfl ?_
  refine TL.run1 (pure_extract rfl rfl) rfl ?_
  refine TL.run1 (pure_assign rfl) rfl ?_
  refine TL.run1 (pure_assign rfl) rfl ?_
  refine TL.nil' ?_
  refine TC.seq ?_
  refine TC.region ?_
  refine TL.run1 (pure_move rfl) rfl ?_
  refine TL.run1 (pure_call (Points_spec c (by omega)) (.cons rfl .nil) Tryd.call17) rfl ?_
  refine TL.run1 (pure_move rfl) rfl ?_
  refine TL.run1 (pure_extract rfl rfl) rfl ?_
  refine TL.run1 (pure_extract rfl rfl) rfl ?_
  refine TL.run1 (pure_extract rfl rfl) rfl ?_
  refine TL.run1 (pure_assign rfl) rfl ?_
  refine TL.run1 (pure_assign rfl) rfl ?_
  refine TL.run1 (pure_assign rfl) rfl ?_
  refine TL.nil' ?_
  refine TC.seq ?_
  refine TC.seq ?_
  refine TC.region ?_
  refine TL.run1 (pure_call (known_spec) .nil Tryd.call12) rfl ?_
  refine TL.run1 (pure_not rfl) rfl ?_
  refine TL.nil' ?_
  first | refine TC.condD rfl (fun hc33 => ?_) (fun hc33 => ?_) | refine TC.condN rfl (fun hc33 => ?_) (fun hc33 => ?_) | refine TC.cond rfl (fun hc33 => ?_) (fun hc33 => ?_)
  · try dsimp only at hc33
    exact absurd hc33 (by simp)
  · try dsimp only at hc33
    refine TC.skip' ?_
    refine TC.seq ?_
    refine TC.seq ?_
    refine TC.region ?_
    refine TL.run1 (pure_move rfl) rfl ?_
    refine TL.run1 (pure_not rfl) rfl ?_
    refine TL.nil' ?_
    first | refine TC.condD rfl (fun hc35 => ?_) (fun hc35 => ?_) | refine TC.condN rfl (fun hc35 => ?_) (fun hc35 => ?_) | refine TC.cond rfl (fun hc35 => ?_) (fun hc35 => ?_)
    · try dsimp only at hc35
      have hok : okS c = false := decide_eq_false hc35
      obtain ⟨v1, v2, v3, v4, v5⟩ := badV hok
      rw [v4, v5]
      refine TC.regionCut [36, 37, 38, 39, 40, 41, 42, 43, 44, 45, 46, 47, 48, 49, 50, 2] 2 (True) ?_ ?_
      · skip
        refine TL.run1 (pure_move rfl) rfl ?_
        refine TL.run1 (pure_eql rfl rfl) rfl ?_
        refine TL.run1 (pure_move rfl) rfl ?_
        first | refine TL.splitP 38 rfl (fun hg38 => ?_) (fun hg38 => ?_) | refine TL.split 38 rfl (fun hg38 => ?_) (fun hg38 => ?_)
        · try dsimp only at hg38
          refine TL.runG rfl rfl (pure_move rfl) rfl ?_
          refine TL.runG rfl rfl (pure_eql rfl rfl) rfl ?_
          refine TL.run1 (pure_pick_true rfl rfl) rfl ?_
          refine TL.run1 (pure_move rfl) rfl ?_
          first | refine TL.splitP 42 rfl (fun hg42 => ?_) (fun hg42 => ?_) | refine TL.split 42 rfl (fun hg42 => ?_) (fun hg42 => ?_)
          · try dsimp only at hg42
            refine TL.runG rfl rfl (pure_move rfl) rfl ?_
            first | refine TL.runG rfl rfl (pure_len Ty.sl35 rfl) rfl ?_ | refine TL.runG rfl rfl (pure_len_row Ty.sl35 rfl (by repeat (first | exact List.Mem.head _ | apply List.Mem.tail))) rfl ?_ | refine TL.runG rfl rfl (pure_len_nil Ty.sl35 rfl) rfl ?_
            refine TL.runG rfl rfl (pure_eql rfl rfl) rfl ?_
            refine TL.run1 (pure_pick_true rfl rfl) rfl ?_
            refine TL.run1 (pure_move rfl) rfl ?_
            first | refine TL.splitP 47 rfl (fun hg47 => ?_) (fun hg47 => ?_) | refine TL.split 47 rfl (fun hg47 => ?_) (fun hg47 => ?_)
            · try dsimp only at hg47
              refine TL.runG rfl rfl (pure_move rfl) rfl ?_
              refine TL.runG rfl rfl (pure_eql rfl rfl) rfl ?_
              refine TL.run1 (pure_pick_true rfl rfl) rfl ?_
              refine TL.run1 (pure_assign rfl) rfl ?_
              refine TL.cutEnd (by repeat (first | exact Same.refl _ _ | refine Same.put rfl ?_)) rfl ?_
              first | rfl | (simp_all [encI, encT]; done) | (simp_all; omega) | grind
            · try dsimp only at hg47
              refine TL.passG rfl rfl rfl rfl ?_
              refine TL.passG rfl rfl rfl rfl ?_
              refine TL.run1 (pure_pick_false rfl rfl) rfl ?_
              refine TL.run1 (pure_assign rfl) rfl ?_
              refine TL.cutEnd (by repeat (first | exact Same.refl _ _ | refine Same.put rfl ?_)) rfl ?_
              first | rfl | (simp_all [encI, encT]; done) | (simp_all; omega) | grind
          · try dsimp only at hg42
            refine TL.passG rfl rfl rfl rfl ?_
            refine TL.passG rfl rfl rfl rfl ?_
            refine TL.passG rfl rfl rfl rfl ?_
            refine TL.run1 (pure_pick_false rfl rfl) rfl ?_
            refine TL.run1 (pure_move rfl) rfl ?_
            refine TL.passG rfl rfl rfl rfl ?_
            refine TL.passG rfl rfl rfl rfl ?_
            refine TL.run1 (pure_pick_false rfl rfl) rfl ?_
            refine TL.run1 (pure_assign rfl) rfl ?_
            refine TL.cutEnd (by repeat (first | exact Same.refl _ _ | refine Same.put rfl ?_)) rfl ?_
            first | rfl | (simp_all [encI, encT]; done) | (simp_all; omega) | grind
        · try dsimp only at hg38
          refine TL.passG rfl rfl rfl rfl ?_
          refine TL.passG rfl rfl rfl rfl ?_
          refine TL.run1 (pure_pick_false rfl rfl) rfl ?_
          refine TL.run1 (pure_move rfl) rfl ?_
          refine TL.passG rfl rfl rfl rfl ?_
          refine TL.passG rfl rfl rfl rfl ?_
          refine TL.passG rfl rfl rfl rfl ?_
          refine TL.run1 (pure_pick_false rfl rfl) rfl ?_
          refine TL.run1 (pure_move rfl) rfl ?_
          refine TL.passG rfl rfl rfl rfl ?_
          refine TL.passG rfl rfl rfl rfl ?_
          refine TL.run1 (pure_pick_false rfl rfl) rfl ?_
          refine TL.run1 (pure_assign rfl) rfl ?_
          refine TL.cutEnd (by repeat (first | exact Same.refl _ _ | refine Same.put rfl ?_)) rfl ?_
          first | rfl | (simp_all [encI, encT]; done) | (simp_all; omega) | grind
      refine TC.ret ?_
      refine then_ret ?_
      exact ret_bool rfl (by simp)
    · try dsimp only at hc35
      have hok : okS c = true := decide_eq_true hc35
      obtain ⟨v1, v2, v3, v4, v5⟩ := okV hok
      rw [v4, v5, v1, v2]
      have hke := encT_len (clS c)
      rw [clS_len] at hke
      have hkb := encI_len (bnds (cls c))
      refine TC.skip' ?_
      refine TC.seq ?_
      refine TC.region ?_
      refine TL.run1 (pure_move rfl) rfl ?_
      refine TL.run1 (pure_call (RBnd_spec c (by omega)) (.cons rfl .nil) Tryd.call19) rfl ?_
      refine TL.run1 (pure_assign rfl) rfl ?_
      refine TL.nil' ?_
      refine TC.seq ?_
      refine TC.regionCut [53, 54, 55, 56, 57, 58, 59, 60, 61, 62, 63, 64, 65, 66, 67, 68, 69, 70, 71, 72] 72 (False) ?_ ?_
      · skip
        refine TL.run1 (pure_move rfl) rfl ?_
        refine TL.run1 (pure_neq rfl rfl) rfl ?_
        refine TL.run1 (pure_move rfl) rfl ?_
        first | refine TL.splitP 55 rfl (fun hg55 => ?_) (fun hg55 => ?_) | refine TL.split 55 rfl (fun hg55 => ?_) (fun hg55 => ?_)
        · try dsimp only at hg55
          refine TL.passG rfl rfl rfl rfl ?_
          refine TL.passG rfl rfl rfl rfl ?_
          refine TL.run1 (pure_pick_true rfl rfl) rfl ?_
          refine TL.run1 (pure_move rfl) rfl ?_
          refine TL.passG rfl rfl rfl rfl ?_
          refine TL.passG rfl rfl rfl rfl ?_
          refine TL.passG rfl rfl rfl rfl ?_
          refine TL.passG rfl rfl rfl rfl ?_
          refine TL.run1 (pure_pick_true rfl rfl) rfl ?_
          refine TL.run1 (pure_move rfl) rfl ?_
          refine TL.passG rfl rfl rfl rfl ?_
          refine TL.passG rfl rfl rfl rfl ?_
          refine TL.passG rfl rfl rfl rfl ?_
          refine TL.passG rfl rfl rfl rfl ?_
          refine TL.passG rfl rfl rfl rfl ?_
          refine TL.passG rfl rfl rfl rfl ?_
          refine TL.run1 (pure_pick_true rfl rfl) rfl ?_
          refine TL.cutEnd (by repeat (first | exact Same.refl _ _ | refine Same.put rfl ?_)) rfl ?_
          first | rfl | (simp_all [encI, encT]; done) | (simp_all; omega) | grind
        · try dsimp only at hg55
          refine TL.runG rfl rfl (pure_move rfl) rfl ?_
          refine TL.runG rfl rfl (pure_neq rfl rfl) rfl ?_
          refine TL.run1 (pure_pick_false rfl rfl) rfl ?_
          refine TL.run1 (pure_move rfl) rfl ?_
          first | refine TL.splitP 59 rfl (fun hg59 => ?_) (fun hg59 => ?_) | refine TL.split 59 rfl (fun hg59 => ?_) (fun hg59 => ?_)
          · try dsimp only at hg59
            refine TL.passG rfl rfl rfl rfl ?_
            refine TL.passG rfl rfl rfl rfl ?_
            refine TL.passG rfl rfl rfl rfl ?_
            refine TL.passG rfl rfl rfl rfl ?_
            refine TL.run1 (pure_pick_true rfl rfl) rfl ?_
            refine TL.run1 (pure_move rfl) rfl ?_
            refine TL.passG rfl rfl rfl rfl ?_
            refine TL.passG rfl rfl rfl rfl ?_
            refine TL.passG rfl rfl rfl rfl ?_
            refine TL.passG rfl rfl rfl rfl ?_
            refine TL.passG rfl rfl rfl rfl ?_
            refine TL.passG rfl rfl rfl rfl ?_
            refine TL.run1 (pure_pick_true rfl rfl) rfl ?_
            refine TL.cutEnd (by repeat (first | exact Same.refl _ _ | refine Same.put rfl ?_)) rfl ?_
            first | rfl | (simp_all [encI, encT]; done) | (simp_all; omega) | grind
          · try dsimp only at hg59
            refine TL.runG rfl rfl (pure_move rfl) rfl ?_
            refine TL.runG rfl rfl (pure_move rfl) rfl ?_
            first | refine TL.runG rfl rfl (pure_len Ty.sl35 rfl) rfl ?_ | refine TL.runG rfl rfl (pure_len_row Ty.sl35 rfl (by repeat (first | exact List.Mem.head _ | apply List.Mem.tail))) rfl ?_ | refine TL.runG rfl rfl (pure_len_nil Ty.sl35 rfl) rfl ?_
            refine TL.runG rfl rfl (pure_neq rfl rfl) rfl ?_
            refine TL.run1 (pure_pick_false rfl rfl) rfl ?_
            refine TL.run1 (pure_move rfl) rfl ?_
            first | refine TL.splitP 65 rfl (fun hg65 => ?_) (fun hg65 => ?_) | refine TL.split 65 rfl (fun hg65 => ?_) (fun hg65 => ?_)
            · try dsimp only at hg65
              refine TL.passG rfl rfl rfl rfl ?_
              refine TL.passG rfl rfl rfl rfl ?_
              refine TL.passG rfl rfl rfl rfl ?_
              refine TL.passG rfl rfl rfl rfl ?_
              refine TL.passG rfl rfl rfl rfl ?_
              refine TL.passG rfl rfl rfl rfl ?_
              refine TL.run1 (pure_pick_true rfl rfl) rfl ?_
              refine TL.cutEnd (by repeat (first | exact Same.refl _ _ | refine Same.put rfl ?_)) rfl ?_
              first | rfl | (simp_all [encI, encT]; done) | (simp_all; omega) | grind
            · try dsimp only at hg65
              refine TL.runG rfl rfl (pure_move rfl) rfl ?_
              first | refine TL.runG rfl rfl (pure_len Ty.sl35 rfl) rfl ?_ | refine TL.runG rfl rfl (pure_len_row Ty.sl35 rfl (by repeat (first | exact List.Mem.head _ | apply List.Mem.tail))) rfl ?_ | refine TL.runG rfl rfl (pure_len_nil Ty.sl35 rfl) rfl ?_
              refine TL.runG rfl rfl (pure_move rfl) rfl ?_
              first | refine TL.runG rfl rfl (pure_len Ty.sl26 rfl) rfl ?_ | refine TL.runG rfl rfl (pure_len_row Ty.sl26 rfl (by repeat (first | exact List.Mem.head _ | apply List.Mem.tail))) rfl ?_ | refine TL.runG rfl rfl (pure_len_nil Ty.sl26 rfl) rfl ?_
              refine TL.runG rfl rfl (pure_sub rfl rfl (mkI64 (by omega) (by omega))) rfl ?_
              refine TL.runG rfl rfl (pure_neq rfl rfl) rfl ?_
              refine TL.run1 (pure_pick_false rfl rfl) rfl ?_
              refine TL.cutEnd (by repeat (first | exact Same.refl _ _ | refine Same.put rfl ?_)) rfl ?_
              first | rfl | (simp_all [encI, encT]; done) | (simp_all; omega) | grind
      first | refine TC.condD rfl (fun hc72 => ?_) (fun hc72 => ?_) | refine TC.condN rfl (fun hc72 => ?_) (fun hc72 => ?_) | refine TC.cond rfl (fun hc72 => ?_) (fun hc72 => ?_)
      · try dsimp only at hc72
        all_goals exact hc72.elim
      · try dsimp only at hc72
        refine TC.skip' ?_
        refine TC.seq ?_
        refine TC.seq ?_
        refine TC.region ?_
        refine TL.run1 (pure_assign rfl) rfl ?_
        refine TL.nil' ?_
        refine TC.block ?_
        refine TC.loopX (X := Int) (fun i => [(0, .v (.string c)), (3, .sl 1 (encT (clS c))), (8, .sl 1 (encI (offs c))), (10, .sl 1 (encI (bnds (cls c)))), (11, .v (.int .i64 i))]) (fun i => []) (fun i => (0 ≤ i) ∧ (i ≤ (cAll (cls c)).length)) (fun i => ((cAll (cls c)).length - i).toNat) (0) ⟨by skip; repeat (first | exact Agree.nil | refine Agree.cons rfl ?_), by skip; repeat (first | exact List.nil_sublist _ | exact List.Sublist.refl _ | apply List.Sublist.cons_cons | apply List.Sublist.cons)⟩ ?_ ?_
        · skip
          exact ⟨by omega, by omega⟩
        intro i
        rintro ⟨h0, h1⟩
        show TC _ _ _ (Env.of [(0, .v (.string c)), (3, .sl 1 (encT (clS c))), (8, .sl 1 (encI (offs c))), (10, .sl 1 (encI (bnds (cls c)))), (11, .v (.int .i64 i))]) []
        refine TC.seq ?_
        refine TC.seq ?_
        refine TC.region ?_
        refine TL.run1 (pure_move rfl) rfl ?_
        refine TL.run1 (pure_move rfl) rfl ?_
        first | refine TL.run1 (pure_len Ty.sl35 rfl) rfl ?_ | refine TL.run1 (pure_len_row Ty.sl35 rfl (by repeat (first | exact List.Mem.head _ | apply List.Mem.tail))) rfl ?_ | refine TL.run1 (pure_len_nil Ty.sl35 rfl) rfl ?_
        refine TL.run1 (pure_lss rfl rfl) rfl ?_
        refine TL.nil' ?_
        first | refine TC.condD rfl (fun hc76 => ?_) (fun hc76 => ?_) | refine TC.condN rfl (fun hc76 => ?_) (fun hc76 => ?_) | refine TC.cond rfl (fun hc76 => ?_) (fun hc76 => ?_)
        · try dsimp only at hc76
          refine TC.skip' ?_
          refine TC.seq ?_
          refine TC.block ?_
          refine TC.seq ?_
          obtain ⟨p, hpd⟩ : ∃ p, (cAll (cls c)).getD i.toNat (0, 0) = p := ⟨_, rfl⟩
          have hpm := cAll_getD_mem (cls c) i.toNat (by omega)
          have hpf := cAll_fst (cls c) i.toNat (by omega)
          have hps := cAll_snd (cls c) i.toNat (by omega)
          have hta := tAt_clS c i h0 (by omega)
          rw [hpd] at hpm hpf hps hta
          rw [show ((i.toNat : Nat) : Int) = i by omega] at hpf hps
          have hrow := encT_get (clS c) i h0 (by rw [clS_len]; omega)
          rw [hta] at hrow
          have hrb := encI_get (bnds (cls c)) i h0 (by omega)
          have hrc := encI_get (bnds (cls c)) (i + 1) (by omega) (by omega)
          rw [hpf] at hrb
          rw [hps] at hrc
          obtain ⟨hp1, hp2, hp3⟩ := cAll_mem hpm
          rw [cls_len] at hp2
          obtain ⟨hs1, hs2⟩ := sub_count hok hpm
          have hmo := rpos_mono c (Nat.le_of_lt hp3)
          have hme := rpos_mono c hp2
          rw [nR_end] at hme
          refine TC.region ?_
          refine TL.run1 (pure_move rfl) rfl ?_
          refine TL.run1 (pure_move rfl) rfl ?_
          refine TL.run1 (pure_indexAddr Ty.sl35 rfl rfl (by omega) hrow (List.cons_ne_nil _ _)) rfl ?_
          first | refine TL.run1 (pure_load1 Ty.one9 rfl) rfl ?_ | refine TL.run1 (pure_load1_own Ty.one9 rfl (by repeat (first | exact List.Mem.head _ | apply List.Mem.tail)) (by repeat (first | exact DropR.zero _ | apply DropR.succ))) rfl ?_
          first | refine TL.run1 (pure_call (Count_spec c (by omega)) (.cons rfl .nil) Tryd.call21) rfl ?_ | refine TL.run1 (pure_call (Count_spec (subS c p) (by have := subS_size c p; omega)) (.cons rfl .nil) Tryd.call21) rfl ?_
          refine TL.run1 (pure_move rfl) rfl ?_
          refine TL.run1 (pure_extract rfl rfl) rfl ?_
          refine TL.run1 (pure_extract rfl rfl) rfl ?_
          refine TL.run1 (pure_assign rfl) rfl ?_
          refine TL.run1 (pure_assign rfl) rfl ?_
          refine TL.nil' ?_
          rw [hs1, hs2]
          refine TC.drawCut [87, 88, 89, 90, 91, 92, 93, 94, 95, 96, 97, 98, 99, 100, 101, 102, 103, 104, 105, 106, 107, 108, 109, 110, 111, 112, 113, 114, 115, 116] 116 (False) Ty.follows (by kernel_rfl) ?_ ?_
          · skip
            refine TD.run1 (pure_move rfl) rfl ?_
            refine TD.run1 (pure_move rfl) rfl ?_
            refine TD.run1 (pure_indexAddr Ty.sl35 rfl rfl (by omega) hrow (List.cons_ne_nil _ _)) rfl ?_
            first | refine TD.run1 (pure_load1 Ty.one9 rfl) rfl ?_ | refine TD.run1 (pure_load1_own Ty.one9 rfl (by repeat (first | exact List.Mem.head _ | apply List.Mem.tail)) (by repeat (first | exact DropR.zero _ | apply DropR.succ))) rfl ?_
            refine TD.run1 (pure_move rfl) rfl ?_
            refine TD.run1 (pure_move rfl) rfl ?_
            refine TD.run1 (pure_move rfl) rfl ?_
            refine TD.run1 (pure_move rfl) rfl ?_
            refine TD.run1 (pure_move rfl) rfl ?_
            refine TD.run1 (pure_indexAddr Ty.sl26 rfl rfl (by omega) hrb (List.cons_ne_nil _ _)) rfl ?_
            first | refine TD.run1 (pure_load1 Ty.one3 rfl) rfl ?_ | refine TD.run1 (pure_load1_own Ty.one3 rfl (by repeat (first | exact List.Mem.head _ | apply List.Mem.tail)) (by repeat (first | exact DropR.zero _ | apply DropR.succ))) rfl ?_
            first | refine TD.run1 (pure_call (bytesOf_spec c p.1 (by omega)) (.cons rfl (.cons rfl (.cons rfl .nil))) Tryd.call22) rfl ?_ | refine TD.run1 (pure_call (bytesOf_spec c p.2 (by omega)) (.cons rfl (.cons rfl (.cons rfl .nil))) Tryd.call22) rfl ?_
            refine TD.run1 (pure_move rfl) rfl ?_
            refine TD.run1 (pure_move rfl) rfl ?_
            refine TD.run1 (pure_move rfl) rfl ?_
            refine TD.run1 (pure_move rfl) rfl ?_
            refine TD.run1 (pure_add rfl rfl (mkI64 (by omega) (by omega))) rfl ?_
            refine TD.run1 (pure_indexAddr Ty.sl26 rfl rfl (by omega) hrc (List.cons_ne_nil _ _)) rfl ?_
            first | refine TD.run1 (pure_load1 Ty.one3 rfl) rfl ?_ | refine TD.run1 (pure_load1_own Ty.one3 rfl (by repeat (first | exact List.Mem.head _ | apply List.Mem.tail)) (by repeat (first | exact DropR.zero _ | apply DropR.succ))) rfl ?_
            first | refine TD.run1 (pure_call (bytesOf_spec c p.1 (by omega)) (.cons rfl (.cons rfl (.cons rfl .nil))) Tryd.call22) rfl ?_ | refine TD.run1 (pure_call (bytesOf_spec c p.2 (by omega)) (.cons rfl (.cons rfl (.cons rfl .nil))) Tryd.call22) rfl ?_
            refine TD.run1 (pure_slice_str Tryd.underlying9 rfl (by rfl) (by rfl) (by omega) (by omega)) rfl ?_
            refine TD.run1 (pure_neq_string rfl rfl) rfl ?_
            refine TD.run1 (pure_move rfl) rfl ?_
            first | refine TD.splitP 109 rfl (fun hg109 => ?_) (fun hg109 => ?_) | refine TD.split 109 rfl (fun hg109 => ?_) (fun hg109 => ?_)
            · try dsimp only at hg109
              refine TD.passG rfl rfl rfl rfl ?_
              refine TD.passG rfl rfl rfl rfl ?_
              refine TD.run1 (pure_pick_true rfl rfl) rfl ?_
              refine TD.run1 (pure_move rfl) rfl ?_
              refine TD.passG rfl rfl rfl rfl ?_
              refine TD.passG rfl rfl rfl rfl ?_
              refine TD.run1 (pure_pick_true rfl rfl) rfl ?_
              refine TD.cutEnd (by repeat (first | exact Same.refl _ _ | refine Same.put rfl ?_)) rfl ?_
              first | exact absurd rfl hg109 | exact absurd rfl hg113 | simp
            · try dsimp only at hg109
              refine TD.runG rfl rfl (pure_move rfl) rfl ?_
              refine TD.runG rfl rfl (pure_neq rfl rfl) rfl ?_
              refine TD.run1 (pure_pick_false rfl rfl) rfl ?_
              refine TD.run1 (pure_move rfl) rfl ?_
              first | refine TD.splitP 113 rfl (fun hg113 => ?_) (fun hg113 => ?_) | refine TD.split 113 rfl (fun hg113 => ?_) (fun hg113 => ?_)
              · try dsimp only at hg113
                refine TD.passG rfl rfl rfl rfl ?_
                refine TD.passG rfl rfl rfl rfl ?_
                refine TD.run1 (pure_pick_true rfl rfl) rfl ?_
                refine TD.cutEnd (by repeat (first | exact Same.refl _ _ | refine Same.put rfl ?_)) rfl ?_
                first | exact absurd rfl hg109 | exact absurd rfl hg113 | simp
              · try dsimp only at hg113
                refine TD.runG rfl rfl (pure_move rfl) rfl ?_
                refine TD.runG rfl rfl (pure_neq rfl rfl) rfl ?_
                refine TD.run1 (pure_pick_false rfl rfl) rfl ?_
                refine TD.cutEnd (by repeat (first | exact Same.refl _ _ | refine Same.put rfl ?_)) rfl ?_
                first | exact absurd rfl hg109 | exact absurd rfl hg113 | simp
          first | refine TC.condD rfl (fun hc116 => ?_) (fun hc116 => ?_) | refine TC.condN rfl (fun hc116 => ?_) (fun hc116 => ?_) | refine TC.cond rfl (fun hc116 => ?_) (fun hc116 => ?_)
          · try dsimp only at hc116
            all_goals exact hc116.elim
          · try dsimp only at hc116
            refine TC.skip ?_
            refine block_normal ?_
            refine then_normal ?_
            refine TC.region ?_
            refine TL.run1 (pure_move rfl) rfl ?_
            refine TL.run1 (pure_add rfl rfl (mkI64 (by omega) (by omega))) rfl ?_
            refine TL.run1 (pure_assign rfl) rfl ?_
            refine TL.nil ?_
            refine loop_next (i + 1) ⟨by repeat (first | exact Agree.nil | refine Agree.cons rfl ?_), by repeat (first | exact List.nil_sublist _ | exact List.Sublist.refl _ | apply List.Sublist.cons_cons | apply List.Sublist.cons)⟩ ⟨by omega, by omega⟩ (by omega)
        · try dsimp only at hc76
          refine TC.exit ?_
          refine then_exit ?_
          refine loop_exit ?_
          refine block_here ?_
          refine then_normal ?_
          refine TC.seq ?_
          refine TC.region ?_
          refine TL.run1 (pure_assign rfl) rfl ?_
          refine TL.nil' ?_
          refine TC.ret ?_
          exact ret_bool rfl (by simp)
end Go.Ob
