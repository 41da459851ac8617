import Derived.Test.YtcfnfioefbkamaaDoorS9
set_option linter.unusedVariables false
set_option linter.unusedSimpArgs false
namespace Go.Ob
open Go.Proofs

def isTk (c b : List Int) (z : Int) : Nat → Bool
  | 0 => false
  | k + 1 => isTk c b z k || decide (iAt b ((posT c k : Nat) : Int) = z)
theorem isTk_true {c b : List Int} {z : Int} {j : Nat} (hj : iAt b ((posT c j : Nat) : Int) = z) : ∀ {k}, j < k → isTk c b z k = true
  | 0, h => by omega
  | k + 1, h => by
    rw [isTk]
    rcases Nat.lt_or_eq_of_le (Nat.le_of_lt_succ h) with h | h
    · rw [isTk_true hj h, Bool.true_or]
    · rw [← h, decide_eq_true hj, Bool.or_true]
set_option maxHeartbeats 4000000 in
set_option maxRecDepth 100000 in
theorem SegmentBorders_spec (s : ByteArray) : Fun Tryd.prog 8 [.v (.string s)] (.v (.bool true)) := by
  refine Fun.enter (n := 134) (rs := [.tmp 2]) Tryd.func8 rfl Tryd.ntmps8 Tryd.results8 rfl (fun w F => ?_)
  refine TC.seq ?_; refine TC.region ?_; refine TL.run1 (pure_assign rfl) rfl ?_; refine TL.nil' ?_; refine TC.seq ?_; refine TC.region ?_; refine TL.run1 (pure_move rfl) rfl ?_; refine TL.run1 (pure_call (short_spec s) (.cons rfl .nil) Tryd.call12) rfl ?_; refine TL.run1 (pure_assign rfl) rfl ?_; refine TL.nil' ?_; refine TC.seq ?_
  obtain ⟨c, hcd⟩ : ∃ c, shortS s = c := ⟨_, rfl⟩
  rw [hcd]
  have hcs : c.size ≤ 240 := hcd ▸ shortS_size s
  refine TC.region ?_; refine TL.run1 (pure_move rfl) rfl ?_; refine TL.run1 (pure_call (Tokens_spec c (by omega)) (.cons rfl .nil) Tryd.call13) rfl ?_; refine TL.run1 (pure_move rfl) rfl ?_; refine TL.run1 (pure_extract rfl rfl) rfl ?_; refine TL.run1 (pure_extract rfl rfl) rfl ?_; refine TL.run1 (pure_assign rfl) rfl ?_; refine TL.run1 (pure_assign rfl) rfl ?_; refine TL.nil' ?_; refine TC.seq ?_; refine TC.region ?_; refine TL.run1 (pure_move rfl) rfl ?_; refine TL.run1 (pure_call (Breaks_spec c (by omega)) (.cons rfl .nil) Tryd.call18) rfl ?_; refine TL.run1 (pure_move rfl) rfl ?_; refine TL.run1 (pure_extract rfl rfl) rfl ?_; refine TL.run1 (pure_extract rfl rfl) rfl ?_; refine TL.run1 (pure_assign rfl) rfl ?_; refine TL.run1 (pure_assign rfl) rfl ?_; refine TL.nil' ?_; refine TC.seq ?_; refine TC.region ?_; refine TL.run1 (pure_move rfl) rfl ?_; refine TL.run1 (pure_call (Points_spec c (by omega)) (.cons rfl .nil) Tryd.call16) rfl ?_; refine TL.run1 (pure_move rfl) rfl ?_; refine TL.run1 (pure_extract rfl rfl) rfl ?_; refine TL.run1 (pure_extract rfl rfl) rfl ?_; refine TL.run1 (pure_extract rfl rfl) rfl ?_; refine TL.run1 (pure_assign rfl) rfl ?_; refine TL.run1 (pure_assign rfl) rfl ?_; refine TL.run1 (pure_assign rfl) rfl ?_; refine TL.nil' ?_; refine TC.seq ?_; refine TC.regionCut [31, 32, 33, 34, 35, 36] 36 (okS c = false) ?_ ?_
  · skip
    refine TL.run1 (pure_call (known_spec) .nil Tryd.call15) rfl ?_; refine TL.run1 (pure_not rfl) rfl ?_; refine TL.run1 (pure_move rfl) rfl ?_
    first | refine TL.splitP 33 rfl (fun hg33 => ?_) (fun hg33 => ?_) | refine TL.split 33 rfl (fun hg33 => ?_) (fun hg33 => ?_)
    · try dsimp only at hg33
      refine TL.passG rfl rfl rfl rfl ?_; refine TL.passG rfl rfl rfl rfl ?_; refine TL.run1 (pure_pick_true rfl rfl) rfl ?_; refine TL.cutEnd (by repeat (first | exact Same.refl _ _ | refine Same.put rfl ?_)) rfl ?_
      first | (simp_all; done) | grind
    · try dsimp only at hg33
      refine TL.runG rfl rfl (pure_move rfl) rfl ?_; refine TL.runG rfl rfl (pure_not rfl) rfl ?_; refine TL.run1 (pure_pick_false rfl rfl) rfl ?_; refine TL.cutEnd (by repeat (first | exact Same.refl _ _ | refine Same.put rfl ?_)) rfl ?_
      first | (simp_all; done) | grind
  first | refine TC.condD rfl (fun hc36 => ?_) (fun hc36 => ?_) | refine TC.condN rfl (fun hc36 => ?_) (fun hc36 => ?_) | refine TC.cond rfl (fun hc36 => ?_) (fun hc36 => ?_)
  · try dsimp only at hc36
    have hok : okS c = false := hc36
    have hE := errU_not hok
    refine TC.regionCut [37, 38, 39, 40, 41, 42, 43, 44, 45, 2] 2 (True) ?_ ?_
    · skip
      refine TL.run1 (pure_call (known_spec) .nil Tryd.call15) rfl ?_; refine TL.run1 (pure_move rfl) rfl ?_
      first | refine TL.splitP 38 rfl (fun hg38 => ?_) (fun hg38 => ?_) | refine TL.split 38 rfl (fun hg38 => ?_) (fun hg38 => ?_)
      · try dsimp only at hg38
        refine TL.runG rfl rfl (pure_move rfl) rfl ?_; refine TL.runG rfl rfl (pure_eql rfl rfl) rfl ?_; refine TL.run1 (pure_pick_true rfl rfl) rfl ?_; refine TL.run1 (pure_move rfl) rfl ?_
        first | refine TL.splitP 42 rfl (fun hg42 => ?_) (fun hg42 => ?_) | refine TL.split 42 rfl (fun hg42 => ?_) (fun hg42 => ?_)
        · try dsimp only at hg42
          refine TL.runG rfl rfl (pure_move rfl) rfl ?_; refine TL.runG rfl rfl (pure_eql rfl rfl) rfl ?_; refine TL.run1 (pure_pick_true rfl rfl) rfl ?_; refine TL.run1 (pure_assign rfl) rfl ?_; refine TL.cutEnd (by repeat (first | exact Same.refl _ _ | refine Same.put rfl ?_)) rfl ?_
          first | (simp_all; done) | grind
        · try dsimp only at hg42
          refine TL.passG rfl rfl rfl rfl ?_; refine TL.passG rfl rfl rfl rfl ?_; refine TL.run1 (pure_pick_false rfl rfl) rfl ?_; refine TL.run1 (pure_assign rfl) rfl ?_; refine TL.cutEnd (by repeat (first | exact Same.refl _ _ | refine Same.put rfl ?_)) rfl ?_
          first | (simp_all; done) | grind
      · try dsimp only at hg38
        refine TL.passG rfl rfl rfl rfl ?_; refine TL.passG rfl rfl rfl rfl ?_; refine TL.run1 (pure_pick_false rfl rfl) rfl ?_; refine TL.run1 (pure_move rfl) rfl ?_; refine TL.passG rfl rfl rfl rfl ?_; refine TL.passG rfl rfl rfl rfl ?_; refine TL.run1 (pure_pick_false rfl rfl) rfl ?_; refine TL.run1 (pure_assign rfl) rfl ?_; refine TL.cutEnd (by repeat (first | exact Same.refl _ _ | refine Same.put rfl ?_)) rfl ?_
        first | (simp_all; done) | grind
    refine TC.ret ?_; refine then_ret ?_
    exact ret_bool rfl (by simp)
  · try dsimp only at hc36
    have hok : okS c = true := by (cases h : okS c with | true => rfl | false => exact absurd h hc36)
    obtain ⟨v1, v2, v3, _, v5⟩ := okV hok
    have hcl := cAll_len_le (cls c)
    rw [cls_len] at hcl
    have hnl := nR_le c
    have hsl := scL_len c
    have hbl0 : (bnds (cls c)).length = (cAll (cls c)).length + 1 := ends_len _
    have hbe := bnds_end c
    have hinc := inc_bnds (cls c)
    have hbz := bnds_zero (cls c)
    have hpl := pts_len c
    have hkp := encI_len (pts c)
    have htv : tokV c = encTk (scL c) (bnds (cls c)) := by unfold tokV; rw [if_pos hok]
    have hsg := scL_get c
    obtain ⟨cc, hccd⟩ : ∃ cc, scL c = cc := ⟨_, rfl⟩
    obtain ⟨b, hbd⟩ : ∃ b, bnds (cls c) = b := ⟨_, rfl⟩
    rw [hccd] at hsl hsg htv
    rw [hbd] at hbl0 hbe hinc hbz hsg htv
    have hbl : b.length = cc.length + 1 := by omega
    have hbe2 : iAt b ((cc.length : Nat) : Int) = nR c := by rw [hsl]; exact hbe
    have hkb := encI_len b
    have hnt := nT_le cc
    have htl := encTk_len cc b
    rw [hsl] at hnt
    rw [htv, v1, v5]
    have hvl := brkV_len c
    refine TC.skip' ?_; refine TC.seq ?_; refine TC.seq ?_; refine TC.region ?_; refine TL.run1 (pure_assign rfl) rfl ?_; refine TL.nil' ?_; refine TC.block ?_; refine TC.loopX (X := Nat) (fun i => [(3, .sl 3 (encTk cc b)), (4, .v (.int .i64 0)), (5, .sl 2 (brkV c)), (6, .v (.int .i64 0)), (7, .sl 1 (encI (pts c))), (10, .v (.int .i64 i))]) (fun i => []) (fun i => (i ≤ (brkV c).length)) (fun i => (brkV c).length - i) (0) ⟨by skip; repeat (first | exact Agree.nil | refine Agree.cons rfl ?_), by skip; repeat (first | exact List.nil_sublist _ | exact List.Sublist.refl _ | apply List.Sublist.cons_cons | apply List.Sublist.cons)⟩ ?_ ?_
    · skip
      exact Nat.zero_le _
    intro i
    intro h1
    show TC _ _ _ (Env.of [(3, .sl 3 (encTk cc b)), (4, .v (.int .i64 0)), (5, .sl 2 (brkV c)), (6, .v (.int .i64 0)), (7, .sl 1 (encI (pts c))), (10, .v (.int .i64 i))]) []
    refine TC.seq ?_; refine TC.seq ?_; refine TC.region ?_; refine TL.run1 (pure_move rfl) rfl ?_; refine TL.run1 (pure_move rfl) rfl ?_
    first | refine TL.run1 (pure_len Ty.sl39 rfl) rfl ?_ | refine TL.run1 (pure_len_row Ty.sl39 rfl (by repeat (first | exact List.Mem.head _ | apply List.Mem.tail))) rfl ?_ | refine TL.run1 (pure_len_nil Ty.sl39 rfl) rfl ?_
    refine TL.run1 (pure_lss rfl rfl) rfl ?_; refine TL.nil' ?_
    first | refine TC.condD rfl (fun hc49 => ?_) (fun hc49 => ?_) | refine TC.condN rfl (fun hc49 => ?_) (fun hc49 => ?_) | refine TC.cond rfl (fun hc49 => ?_) (fun hc49 => ?_)
    · try dsimp only at hc49
      refine TC.skip' ?_; refine TC.seq ?_; refine TC.block ?_; refine TC.seq ?_
      have hbi : i < (brkV c).length := by omega
      obtain ⟨q, hq, hrow0⟩ := brkV_q hok i hbi
      rw [hbd, hccd] at hrow0
      rw [hccd] at hq
      have hrow : (brkV c)[((i : Nat) : Int).toNat]? = some [.v (.int .i64 (iAt b ((q : Nat) : Int))), .v (.int .i64 (brk cc (q - 1)))] := hrow0
      clear hrow0
      obtain ⟨q1, q2, q3⟩ := qL_mem (List.mem_of_getElem? hq)
      have hql : q < cc.length := by omega
      have hqa := inc_iAt hinc (show 0 < q by omega) (by omega)
      have hqb := inc_iAt hinc (show q < cc.length from hql) (by omega)
      rw [show iAt b ((0 : Nat) : Int) = 0 from hbz] at hqa
      rw [hbe2] at hqb
      have hcq : clsS (iAt (pts c) (iAt b ((q : Nat) : Int))) = iAt cc ((q : Nat) : Int) := (hsg q (by omega)).symm
      have hbk : brk cc (q - 1) ≠ 2 → iAt cc ((q : Nat) : Int) ≠ 2 := fun h => (by have := brk_blank q3 h; rwa [show (((q - 1 : Nat)) : Int) + 1 = ((q : Nat) : Int) by omega] at this)
      have hrp : (encI (pts c))[(iAt b ((q : Nat) : Int)).toNat]? = some [.v (.int .i64 (iAt (pts c) (iAt b ((q : Nat) : Int))))] := encI_get (pts c) (iAt b ((q : Nat) : Int)) (by omega) (by omega)
      refine TC.drawCut [52, 53, 54, 55, 56, 57, 58, 59, 60, 61, 62, 63, 64, 65, 66, 67, 68, 69, 70, 71, 72, 73, 74, 75, 76, 77, 78, 79, 80, 81, 82, 83, 84, 85, 86, 87, 88, 89, 90, 91, 92, 93, 94, 95, 96, 97, 98, 99, 100, 101, 102, 103, 104, 105] 105 (False) Ty.follows (by kernel_rfl) ?_ ?_
      · skip
        refine TD.run1 (pure_move rfl) rfl ?_; refine TD.run1 (pure_move rfl) rfl ?_; refine TD.run1 (pure_indexAddr Ty.sl39 rfl rfl (by omega) hrow (List.cons_ne_nil _ _)) rfl ?_
        first | refine TD.run1 (pure_fieldAddr Ty.f46_0 rfl (.zero _) (List.cons_ne_nil _ _)) rfl ?_ | refine TD.run1 (pure_fieldAddr_own Ty.f46_0 rfl) rfl ?_
        first | refine TD.run1 (pure_load1 Ty.one3 rfl) rfl ?_ | refine TD.run1 (pure_load1_own Ty.one3 rfl (by repeat (first | exact List.Mem.head _ | apply List.Mem.tail)) (by repeat (first | exact DropR.zero _ | apply DropR.succ))) rfl ?_
        refine TD.run1 (pure_lss rfl rfl) rfl ?_; refine TD.run1 (pure_move rfl) rfl ?_
        first | refine TD.splitP 58 rfl (fun hg58 => ?_) (fun hg58 => ?_) | refine TD.split 58 rfl (fun hg58 => ?_) (fun hg58 => ?_)
        · try dsimp only at hg58
          exfalso; omega
        · try dsimp only at hg58
          refine TD.runG rfl rfl (pure_move rfl) rfl ?_; refine TD.runG rfl rfl (pure_move rfl) rfl ?_; refine TD.runG rfl rfl (pure_indexAddr Ty.sl39 rfl rfl (by omega) hrow (List.cons_ne_nil _ _)) rfl ?_
          first | refine TD.runG rfl rfl (pure_fieldAddr Ty.f46_0 rfl (.zero _) (List.cons_ne_nil _ _)) rfl ?_ | refine TD.runG rfl rfl (pure_fieldAddr_own Ty.f46_0 rfl) rfl ?_
          first | refine TD.runG rfl rfl (pure_load1 Ty.one3 rfl) rfl ?_ | refine TD.runG rfl rfl (pure_load1_own Ty.one3 rfl (by repeat (first | exact List.Mem.head _ | apply List.Mem.tail)) (by repeat (first | exact DropR.zero _ | apply DropR.succ))) rfl ?_
          refine TD.runG rfl rfl (pure_move rfl) rfl ?_
          first | refine TD.runG rfl rfl (pure_len Ty.sl35 rfl) rfl ?_ | refine TD.runG rfl rfl (pure_len_row Ty.sl35 rfl (by repeat (first | exact List.Mem.head _ | apply List.Mem.tail))) rfl ?_ | refine TD.runG rfl rfl (pure_len_nil Ty.sl35 rfl) rfl ?_
          refine TD.runG rfl rfl (pure_geq rfl rfl) rfl ?_; refine TD.run1 (pure_pick_false rfl rfl) rfl ?_; refine TD.run1 (pure_move rfl) rfl ?_
          first | refine TD.splitP 68 rfl (fun hg68 => ?_) (fun hg68 => ?_) | refine TD.split 68 rfl (fun hg68 => ?_) (fun hg68 => ?_)
          · try dsimp only at hg68
            exfalso; omega
          · try dsimp only at hg68
            refine TD.runG rfl rfl (pure_move rfl) rfl ?_; refine TD.runG rfl rfl (pure_gtr rfl rfl) rfl ?_; refine TD.runG rfl rfl (pure_move rfl) rfl ?_
            first | refine TD.splitP 71 rfl (fun hg71 => ?_) (fun hg71 => ?_) | refine TD.split 71 rfl (fun hg71 => ?_) (fun hg71 => ?_)
            · try dsimp only at hg71
              have hi0 : 0 < i := by (first | omega | (have h := hg71; simp only [decide_eq_true_eq] at h; omega))
              obtain ⟨q0, hq0, hrow1⟩ := brkV_q hok (i - 1) (by omega)
              rw [hbd, hccd] at hrow1
              rw [hccd] at hq0
              have hrowm : (brkV c)[(((i : Nat) : Int) - 1).toNat]? = some [.v (.int .i64 (iAt b ((q0 : Nat) : Int))), .v (.int .i64 (brk cc (q0 - 1)))] := by (rw [show (((i : Nat) : Int) - 1).toNat = i - 1 by omega]; exact hrow1)
              have hqq : q0 < q := by (have hp := List.pairwise_iff_getElem.1 (qL_inc cc (cc.length - 1)) (i - 1) i (List.getElem?_eq_some_iff.1 hq0).1 (List.getElem?_eq_some_iff.1 hq).1 (by omega); rw [(List.getElem?_eq_some_iff.1 hq0).2, (List.getElem?_eq_some_iff.1 hq).2] at hp; exact hp)
              have hqi := inc_iAt hinc hqq (by omega)
              refine TD.runG rfl rfl (pure_move rfl) rfl ?_; refine TD.runG rfl rfl (pure_move rfl) rfl ?_; refine TD.runG rfl rfl (pure_indexAddr Ty.sl39 rfl rfl (by omega) hrow (List.cons_ne_nil _ _)) rfl ?_
              first | refine TD.runG rfl rfl (pure_fieldAddr Ty.f46_0 rfl (.zero _) (List.cons_ne_nil _ _)) rfl ?_ | refine TD.runG rfl rfl (pure_fieldAddr_own Ty.f46_0 rfl) rfl ?_
              first | refine TD.runG rfl rfl (pure_load1 Ty.one3 rfl) rfl ?_ | refine TD.runG rfl rfl (pure_load1_own Ty.one3 rfl (by repeat (first | exact List.Mem.head _ | apply List.Mem.tail)) (by repeat (first | exact DropR.zero _ | apply DropR.succ))) rfl ?_
              refine TD.runG rfl rfl (pure_move rfl) rfl ?_; refine TD.runG rfl rfl (pure_move rfl) rfl ?_; refine TD.runG rfl rfl (pure_sub rfl rfl (mkI64 (by omega) (by omega))) rfl ?_; refine TD.runG rfl rfl (pure_indexAddr Ty.sl39 rfl rfl (by omega) hrowm (List.cons_ne_nil _ _)) rfl ?_
              first | refine TD.runG rfl rfl (pure_fieldAddr Ty.f46_0 rfl (.zero _) (List.cons_ne_nil _ _)) rfl ?_ | refine TD.runG rfl rfl (pure_fieldAddr_own Ty.f46_0 rfl) rfl ?_
              first | refine TD.runG rfl rfl (pure_load1 Ty.one3 rfl) rfl ?_ | refine TD.runG rfl rfl (pure_load1_own Ty.one3 rfl (by repeat (first | exact List.Mem.head _ | apply List.Mem.tail)) (by repeat (first | exact DropR.zero _ | apply DropR.succ))) rfl ?_
              refine TD.runG rfl rfl (pure_leq rfl rfl) rfl ?_; refine TD.runG rfl rfl (pure_pick_true rfl rfl) rfl ?_; refine TD.run1 (pure_pick_false rfl rfl) rfl ?_; refine TD.run1 (pure_move rfl) rfl ?_
              first | refine TD.splitP 86 rfl (fun hg86 => ?_) (fun hg86 => ?_) | refine TD.split 86 rfl (fun hg86 => ?_) (fun hg86 => ?_)
              · try dsimp only at hg86
                exfalso; omega
              · try dsimp only at hg86
                refine TD.runG rfl rfl (pure_move rfl) rfl ?_; refine TD.runG rfl rfl (pure_move rfl) rfl ?_; refine TD.runG rfl rfl (pure_indexAddr Ty.sl39 rfl rfl (by omega) hrow (List.cons_ne_nil _ _)) rfl ?_
                first | refine TD.runG rfl rfl (pure_fieldAddr Ty.f46_1 rfl (.succ (.zero _)) (List.cons_ne_nil _ _)) rfl ?_ | refine TD.runG rfl rfl (pure_fieldAddr_own Ty.f46_1 rfl) rfl ?_
                first | refine TD.runG rfl rfl (pure_load1 Ty.one3 rfl) rfl ?_ | refine TD.runG rfl rfl (pure_load1_own Ty.one3 rfl (by repeat (first | exact List.Mem.head _ | apply List.Mem.tail)) (by repeat (first | exact DropR.zero _ | apply DropR.succ))) rfl ?_
                refine TD.runG rfl rfl (pure_neq rfl rfl) rfl ?_; refine TD.runG rfl rfl (pure_move rfl) rfl ?_
                first | refine TD.splitP 93 rfl (fun hg93 => ?_) (fun hg93 => ?_) | refine TD.split 93 rfl (fun hg93 => ?_) (fun hg93 => ?_)
                · try dsimp only at hg93
                  have hbn := hbk (by first | exact hg93 | (have h := hg93; simp only [decide_eq_true_eq] at h; exact h))
                  refine TD.runG rfl rfl (pure_move rfl) rfl ?_; refine TD.runG rfl rfl (pure_move rfl) rfl ?_; refine TD.runG rfl rfl (pure_move rfl) rfl ?_; refine TD.runG rfl rfl (pure_indexAddr Ty.sl39 rfl rfl (by omega) hrow (List.cons_ne_nil _ _)) rfl ?_
                  first | refine TD.runG rfl rfl (pure_fieldAddr Ty.f46_0 rfl (.zero _) (List.cons_ne_nil _ _)) rfl ?_ | refine TD.runG rfl rfl (pure_fieldAddr_own Ty.f46_0 rfl) rfl ?_
                  first | refine TD.runG rfl rfl (pure_load1 Ty.one3 rfl) rfl ?_ | refine TD.runG rfl rfl (pure_load1_own Ty.one3 rfl (by repeat (first | exact List.Mem.head _ | apply List.Mem.tail)) (by repeat (first | exact DropR.zero _ | apply DropR.succ))) rfl ?_
                  refine TD.runG rfl rfl (pure_indexAddr Ty.sl35 rfl rfl (by omega) hrp (List.cons_ne_nil _ _)) rfl ?_
                  first | refine TD.runG rfl rfl (pure_load1 Ty.one3 rfl) rfl ?_ | refine TD.runG rfl rfl (pure_load1_own Ty.one3 rfl (by repeat (first | exact List.Mem.head _ | apply List.Mem.tail)) (by repeat (first | exact DropR.zero _ | apply DropR.succ))) rfl ?_
                  refine TD.runG rfl rfl (pure_call (SClass_spec (iAt (pts c) (iAt b ((q : Nat) : Int)))) (.cons rfl .nil) Tryd.call23) rfl ?_
                  rw [hcq]
                  refine TD.runG rfl rfl (pure_eql rfl rfl) rfl ?_; refine TD.runG rfl rfl (pure_pick_true rfl rfl) rfl ?_; refine TD.run1 (pure_pick_false rfl rfl) rfl ?_; refine TD.cutEnd (by repeat (first | exact Same.refl _ _ | refine Same.put rfl ?_)) rfl ?_
                  first | (simp only [decide_eq_true_eq, iff_false]; exact hbn) | simp
                · try dsimp only at hg93
                  refine TD.passG rfl rfl rfl rfl ?_; refine TD.passG rfl rfl rfl rfl ?_; refine TD.passG rfl rfl rfl rfl ?_; refine TD.passG rfl rfl rfl rfl ?_; refine TD.passG rfl rfl rfl rfl ?_; refine TD.passG rfl rfl rfl rfl ?_; refine TD.passG rfl rfl rfl rfl ?_; refine TD.passG rfl rfl rfl rfl ?_; refine TD.passG rfl rfl rfl rfl ?_; refine TD.passG rfl rfl rfl rfl ?_; refine TD.runG rfl rfl (pure_pick_false rfl rfl) rfl ?_; refine TD.run1 (pure_pick_false rfl rfl) rfl ?_; refine TD.cutEnd (by repeat (first | exact Same.refl _ _ | refine Same.put rfl ?_)) rfl ?_
                  first | (simp only [decide_eq_true_eq, iff_false]; exact hbn) | simp
            · try dsimp only at hg71
              refine TD.passG rfl rfl rfl rfl ?_; refine TD.passG rfl rfl rfl rfl ?_; refine TD.passG rfl rfl rfl rfl ?_; refine TD.passG rfl rfl rfl rfl ?_; refine TD.passG rfl rfl rfl rfl ?_; refine TD.passG rfl rfl rfl rfl ?_; refine TD.passG rfl rfl rfl rfl ?_; refine TD.passG rfl rfl rfl rfl ?_; refine TD.passG rfl rfl rfl rfl ?_; refine TD.passG rfl rfl rfl rfl ?_; refine TD.passG rfl rfl rfl rfl ?_; refine TD.passG rfl rfl rfl rfl ?_; refine TD.runG rfl rfl (pure_pick_false rfl rfl) rfl ?_; refine TD.run1 (pure_pick_false rfl rfl) rfl ?_; refine TD.run1 (pure_move rfl) rfl ?_
              first | refine TD.splitP 86 rfl (fun hg86 => ?_) (fun hg86 => ?_) | refine TD.split 86 rfl (fun hg86 => ?_) (fun hg86 => ?_)
              · try dsimp only at hg86
                exact absurd hg86 (by decide)
              · try dsimp only at hg86
                refine TD.runG rfl rfl (pure_move rfl) rfl ?_; refine TD.runG rfl rfl (pure_move rfl) rfl ?_; refine TD.runG rfl rfl (pure_indexAddr Ty.sl39 rfl rfl (by omega) hrow (List.cons_ne_nil _ _)) rfl ?_
                first | refine TD.runG rfl rfl (pure_fieldAddr Ty.f46_1 rfl (.succ (.zero _)) (List.cons_ne_nil _ _)) rfl ?_ | refine TD.runG rfl rfl (pure_fieldAddr_own Ty.f46_1 rfl) rfl ?_
                first | refine TD.runG rfl rfl (pure_load1 Ty.one3 rfl) rfl ?_ | refine TD.runG rfl rfl (pure_load1_own Ty.one3 rfl (by repeat (first | exact List.Mem.head _ | apply List.Mem.tail)) (by repeat (first | exact DropR.zero _ | apply DropR.succ))) rfl ?_
                refine TD.runG rfl rfl (pure_neq rfl rfl) rfl ?_; refine TD.runG rfl rfl (pure_move rfl) rfl ?_
                first | refine TD.splitP 93 rfl (fun hg93 => ?_) (fun hg93 => ?_) | refine TD.split 93 rfl (fun hg93 => ?_) (fun hg93 => ?_)
                · try dsimp only at hg93
                  have hbn := hbk (by first | exact hg93 | (have h := hg93; simp only [decide_eq_true_eq] at h; exact h))
                  refine TD.runG rfl rfl (pure_move rfl) rfl ?_; refine TD.runG rfl rfl (pure_move rfl) rfl ?_; refine TD.runG rfl rfl (pure_move rfl) rfl ?_; refine TD.runG rfl rfl (pure_indexAddr Ty.sl39 rfl rfl (by omega) hrow (List.cons_ne_nil _ _)) rfl ?_
                  first | refine TD.runG rfl rfl (pure_fieldAddr Ty.f46_0 rfl (.zero _) (List.cons_ne_nil _ _)) rfl ?_ | refine TD.runG rfl rfl (pure_fieldAddr_own Ty.f46_0 rfl) rfl ?_
                  first | refine TD.runG rfl rfl (pure_load1 Ty.one3 rfl) rfl ?_ | refine TD.runG rfl rfl (pure_load1_own Ty.one3 rfl (by repeat (first | exact List.Mem.head _ | apply List.Mem.tail)) (by repeat (first | exact DropR.zero _ | apply DropR.succ))) rfl ?_
                  refine TD.runG rfl rfl (pure_indexAddr Ty.sl35 rfl rfl (by omega) hrp (List.cons_ne_nil _ _)) rfl ?_
                  first | refine TD.runG rfl rfl (pure_load1 Ty.one3 rfl) rfl ?_ | refine TD.runG rfl rfl (pure_load1_own Ty.one3 rfl (by repeat (first | exact List.Mem.head _ | apply List.Mem.tail)) (by repeat (first | exact DropR.zero _ | apply DropR.succ))) rfl ?_
                  refine TD.runG rfl rfl (pure_call (SClass_spec (iAt (pts c) (iAt b ((q : Nat) : Int)))) (.cons rfl .nil) Tryd.call23) rfl ?_
                  rw [hcq]
                  refine TD.runG rfl rfl (pure_eql rfl rfl) rfl ?_; refine TD.runG rfl rfl (pure_pick_true rfl rfl) rfl ?_; refine TD.run1 (pure_pick_false rfl rfl) rfl ?_; refine TD.cutEnd (by repeat (first | exact Same.refl _ _ | refine Same.put rfl ?_)) rfl ?_
                  first | (simp only [decide_eq_true_eq, iff_false]; exact hbn) | simp
                · try dsimp only at hg93
                  refine TD.passG rfl rfl rfl rfl ?_; refine TD.passG rfl rfl rfl rfl ?_; refine TD.passG rfl rfl rfl rfl ?_; refine TD.passG rfl rfl rfl rfl ?_; refine TD.passG rfl rfl rfl rfl ?_; refine TD.passG rfl rfl rfl rfl ?_; refine TD.passG rfl rfl rfl rfl ?_; refine TD.passG rfl rfl rfl rfl ?_; refine TD.passG rfl rfl rfl rfl ?_; refine TD.passG rfl rfl rfl rfl ?_; refine TD.runG rfl rfl (pure_pick_false rfl rfl) rfl ?_; refine TD.run1 (pure_pick_false rfl rfl) rfl ?_; refine TD.cutEnd (by repeat (first | exact Same.refl _ _ | refine Same.put rfl ?_)) rfl ?_
                  first | (simp only [decide_eq_true_eq, iff_false]; exact hbn) | simp
      first | refine TC.condD rfl (fun hc105 => ?_) (fun hc105 => ?_) | refine TC.condN rfl (fun hc105 => ?_) (fun hc105 => ?_) | refine TC.cond rfl (fun hc105 => ?_) (fun hc105 => ?_)
      · try dsimp only at hc105
        all_goals exact hc105.elim
      · try dsimp only at hc105
        refine TC.skip' ?_; refine TC.seq ?_; refine TC.region ?_; refine TL.run1 (pure_assign rfl) rfl ?_; refine TL.nil' ?_; refine TC.seq ?_; refine TC.seq ?_; refine TC.region ?_; refine TL.run1 (pure_assign rfl) rfl ?_; refine TL.nil' ?_; refine TC.block ?_; refine TC.loopX (X := Nat) (fun k => [(3, .sl 3 (encTk cc b)), (4, .v (.int .i64 0)), (5, .sl 2 (brkV c)), (6, .v (.int .i64 0)), (7, .sl 1 (encI (pts c))), (10, .v (.int .i64 i)), (11, .v (.bool (isTk cc b (iAt b ((q : Nat) : Int)) k))), (12, .v (.int .i64 k))]) (fun k => []) (fun k => (k ≤ nT cc)) (fun k => nT cc - k) (0) ⟨by skip; repeat (first | exact Agree.nil | refine Agree.cons rfl ?_), by skip; repeat (first | exact List.nil_sublist _ | exact List.Sublist.refl _ | apply List.Sublist.cons_cons | apply List.Sublist.cons)⟩ ?_ ?_
        · skip
          exact Nat.zero_le _
        intro k
        intro k1
        show TC _ _ _ (Env.of [(3, .sl 3 (encTk cc b)), (4, .v (.int .i64 0)), (5, .sl 2 (brkV c)), (6, .v (.int .i64 0)), (7, .sl 1 (encI (pts c))), (10, .v (.int .i64 i)), (11, .v (.bool (isTk cc b (iAt b ((q : Nat) : Int)) k))), (12, .v (.int .i64 k))]) []
        refine TC.seq ?_; refine TC.seq ?_; refine TC.region ?_; refine TL.run1 (pure_move rfl) rfl ?_; refine TL.run1 (pure_move rfl) rfl ?_
        first | refine TL.run1 (pure_len Ty.sl23 rfl) rfl ?_ | refine TL.run1 (pure_len_row Ty.sl23 rfl (by repeat (first | exact List.Mem.head _ | apply List.Mem.tail))) rfl ?_ | refine TL.run1 (pure_len_nil Ty.sl23 rfl) rfl ?_
        refine TL.run1 (pure_lss rfl rfl) rfl ?_; refine TL.nil' ?_
        first | refine TC.condD rfl (fun hc109 => ?_) (fun hc109 => ?_) | refine TC.condN rfl (fun hc109 => ?_) (fun hc109 => ?_) | refine TC.cond rfl (fun hc109 => ?_) (fun hc109 => ?_)
        · try dsimp only at hc109
          refine TC.skip' ?_; refine TC.seq ?_; refine TC.block ?_
          have hrt : (encTk cc b)[((k : Nat) : Int).toNat]? = some [.v (.int .i64 (kindT cc (posT cc k))), .v (.int .i64 (iAt b ((posT cc k : Nat) : Int))), .v (.int .i64 (iAt b ((posT cc (k + 1) : Nat) : Int)))] := encTk_get cc b k (by omega)
          refine TC.draw Ty.follows (by kernel_rfl) ?_; refine TD.run1 (pure_move rfl) rfl ?_; refine TD.run1 (pure_move rfl) rfl ?_
          first | refine TD.splitP 113 rfl (fun hg113 => ?_) (fun hg113 => ?_) | refine TD.split 113 rfl (fun hg113 => ?_) (fun hg113 => ?_)
          · try dsimp only at hg113
            refine TD.passG rfl rfl rfl rfl ?_; refine TD.passG rfl rfl rfl rfl ?_; refine TD.passG rfl rfl rfl rfl ?_; refine TD.passG rfl rfl rfl rfl ?_; refine TD.passG rfl rfl rfl rfl ?_; refine TD.passG rfl rfl rfl rfl ?_; refine TD.passG rfl rfl rfl rfl ?_; refine TD.passG rfl rfl rfl rfl ?_; refine TD.passG rfl rfl rfl rfl ?_; refine TD.passG rfl rfl rfl rfl ?_; refine TD.passG rfl rfl rfl rfl ?_; refine TD.run1 (pure_pick_true rfl rfl) rfl ?_; refine TD.run1 (pure_assign rfl) rfl ?_; refine TD.nil ?_; refine block_normal ?_; refine then_normal ?_; refine TC.region ?_; refine TL.run1 (pure_move rfl) rfl ?_; refine TL.run1 (pure_add rfl rfl (mkI64 (by omega) (by omega))) rfl ?_; refine TL.run1 (pure_assign rfl) rfl ?_; refine TL.nil ?_
            have hst : isTk cc b (iAt b ((q : Nat) : Int)) (k + 1) = true := by (rw [isTk, hg113]; exact Bool.true_or _)
            refine loop_next (k + 1) ⟨by ((try dsimp only); rw [hst, show (((k + 1 : Nat)) : Int) = (k : Int) + 1 by omega]; repeat (first | exact Agree.nil | refine Agree.cons rfl ?_)), by repeat (first | exact List.nil_sublist _ | exact List.Sublist.refl _ | apply List.Sublist.cons_cons | apply List.Sublist.cons)⟩ (show k + 1 ≤ _ by omega) (by omega)
          · try dsimp only at hg113
            refine TD.runG rfl rfl (pure_move rfl) rfl ?_; refine TD.runG rfl rfl (pure_move rfl) rfl ?_; refine TD.runG rfl rfl (pure_indexAddr Ty.sl23 rfl rfl (by omega) hrt (List.cons_ne_nil _ _)) rfl ?_
            first | refine TD.runG rfl rfl (pure_fieldAddr Ty.f32_1 rfl (.succ (.zero _)) (List.cons_ne_nil _ _)) rfl ?_ | refine TD.runG rfl rfl (pure_fieldAddr_own Ty.f32_1 rfl) rfl ?_
            first | refine TD.runG rfl rfl (pure_load1 Ty.one3 rfl) rfl ?_ | refine TD.runG rfl rfl (pure_load1_own Ty.one3 rfl (by repeat (first | exact List.Mem.head _ | apply List.Mem.tail)) (by repeat (first | exact DropR.zero _ | apply DropR.succ))) rfl ?_
            refine TD.runG rfl rfl (pure_move rfl) rfl ?_; refine TD.runG rfl rfl (pure_move rfl) rfl ?_; refine TD.runG rfl rfl (pure_indexAddr Ty.sl39 rfl rfl (by omega) hrow (List.cons_ne_nil _ _)) rfl ?_
            first | refine TD.runG rfl rfl (pure_fieldAddr Ty.f46_0 rfl (.zero _) (List.cons_ne_nil _ _)) rfl ?_ | refine TD.runG rfl rfl (pure_fieldAddr_own Ty.f46_0 rfl) rfl ?_
            first | refine TD.runG rfl rfl (pure_load1 Ty.one3 rfl) rfl ?_ | refine TD.runG rfl rfl (pure_load1_own Ty.one3 rfl (by repeat (first | exact List.Mem.head _ | apply List.Mem.tail)) (by repeat (first | exact DropR.zero _ | apply DropR.succ))) rfl ?_
            refine TD.runG rfl rfl (pure_eql rfl rfl) rfl ?_; refine TD.run1 (pure_pick_false rfl rfl) rfl ?_; refine TD.run1 (pure_assign rfl) rfl ?_; refine TD.nil ?_; refine block_normal ?_; refine then_normal ?_; refine TC.region ?_; refine TL.run1 (pure_move rfl) rfl ?_; refine TL.run1 (pure_add rfl rfl (mkI64 (by omega) (by omega))) rfl ?_; refine TL.run1 (pure_assign rfl) rfl ?_; refine TL.nil ?_
            have hst : isTk cc b (iAt b ((q : Nat) : Int)) (k + 1) = decide (iAt b ((posT cc k : Nat) : Int) = (iAt b ((q : Nat) : Int))) := by (rw [isTk, hg113]; rfl)
            refine loop_next (k + 1) ⟨by ((try dsimp only); rw [hst, show (((k + 1 : Nat)) : Int) = (k : Int) + 1 by omega]; repeat (first | exact Agree.nil | refine Agree.cons rfl ?_)), by repeat (first | exact List.nil_sublist _ | exact List.Sublist.refl _ | apply List.Sublist.cons_cons | apply List.Sublist.cons)⟩ (show k + 1 ≤ _ by omega) (by omega)
        · try dsimp only at hc109
          refine TC.exit ?_; refine then_exit ?_; refine loop_exit ?_; refine block_here ?_; refine then_normal ?_; refine TC.seq ?_
          have hkk : k = nT cc := by omega
          obtain ⟨m, hm1, hm2⟩ := brk_border q1 hql q3
          have hist : isTk cc b (iAt b ((q : Nat) : Int)) k = true := isTk_true (j := m) (by rw [hm2]) (by omega)
          rw [hist]
          refine TC.region ?_; refine TL.run1 (pure_move rfl) rfl ?_; refine TL.run1 (pure_not rfl) rfl ?_; refine TL.nil' ?_
          first | refine TC.condD rfl (fun hc127 => ?_) (fun hc127 => ?_) | refine TC.condN rfl (fun hc127 => ?_) (fun hc127 => ?_) | refine TC.cond rfl (fun hc127 => ?_) (fun hc127 => ?_)
          · try dsimp only at hc127
            exact absurd hc127 (by simp)
          · try dsimp only at hc127
            refine TC.skip ?_; refine block_normal ?_; refine then_normal ?_; refine TC.region ?_; refine TL.run1 (pure_move rfl) rfl ?_; refine TL.run1 (pure_add rfl rfl (mkI64 (by omega) (by omega))) rfl ?_; refine TL.run1 (pure_assign rfl) rfl ?_; refine TL.nil ?_
            refine loop_next (i + 1) ⟨by ((try dsimp only); rw [show (((i + 1 : Nat)) : Int) = (i : Int) + 1 by omega]; repeat (first | exact Agree.nil | refine Agree.cons rfl ?_)), by repeat (first | exact List.nil_sublist _ | exact List.Sublist.refl _ | apply List.Sublist.cons_cons | apply List.Sublist.cons)⟩ (show i + 1 ≤ _ by omega) (by omega)
    · try dsimp only at hc49
      refine TC.exit ?_; refine then_exit ?_; refine loop_exit ?_; refine block_here ?_; refine then_normal ?_; refine TC.regionCut [128, 129, 130, 131, 132, 133, 2] 2 (True) ?_ ?_
      · skip
        refine TL.run1 (pure_move rfl) rfl ?_; refine TL.run1 (pure_eql rfl rfl) rfl ?_; refine TL.run1 (pure_move rfl) rfl ?_
        first | refine TL.splitP 130 rfl (fun hg130 => ?_) (fun hg130 => ?_) | refine TL.split 130 rfl (fun hg130 => ?_) (fun hg130 => ?_)
        · try dsimp only at hg130
          refine TL.runG rfl rfl (pure_move rfl) rfl ?_; refine TL.runG rfl rfl (pure_eql rfl rfl) rfl ?_; refine TL.run1 (pure_pick_true rfl rfl) rfl ?_; refine TL.run1 (pure_assign rfl) rfl ?_; refine TL.cutEnd (by repeat (first | exact Same.refl _ _ | refine Same.put rfl ?_)) rfl ?_
          first | (simp_all; done) | grind
        · try dsimp only at hg130
          refine TL.passG rfl rfl rfl rfl ?_; refine TL.passG rfl rfl rfl rfl ?_; refine TL.run1 (pure_pick_false rfl rfl) rfl ?_; refine TL.run1 (pure_assign rfl) rfl ?_; refine TL.cutEnd (by repeat (first | exact Same.refl _ _ | refine Same.put rfl ?_)) rfl ?_
          first | (simp_all; done) | grind
      refine TC.ret ?_
      exact ret_bool rfl (by simp)
end Go.Ob
