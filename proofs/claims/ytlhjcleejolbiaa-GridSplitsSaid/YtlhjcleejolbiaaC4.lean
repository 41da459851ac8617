import Derived.Test.YtlhjcleejolbiaaN6
set_option linter.unusedVariables false
set_option linter.unusedSimpArgs false
namespace Go.Ob
open Go.Proofs

theorem placeE_zero {rs : List RowD} {i k : Int} (h : placeE rs i k = 0) : existsN rs i k ∧ (spN rs i k).1 ≠ (spN rs i k).2 := by
  unfold placeE at h
  by_cases h1 : ¬ existsN rs i k
  · rw [if_pos h1] at h; omega
  · rw [if_neg h1] at h
    by_cases h2 : (spN rs i k).1 = (spN rs i k).2
    · rw [if_pos h2] at h; omega
    · exact ⟨Classical.not_not.1 h1, h2⟩
def nnQ (q : R6) : Int := (q.right - q.left - 1) * (q.bottom - q.top)
def splE (rs : List RowD) (row cell fresh : Int) : Int := if placeE rs row cell ≠ 0 then placeE rs row cell else if fresh < 1 ∨ fresh > 1073741824 ∨ nnQ (placeR rs row cell) > 1073741824 - fresh + 1 then 18 else 0
def splV (rs : List RowD) (row cell fresh : Int) : List RowD := if splE rs row cell fresh = 0 then splT rs (placeR rs row cell) fresh else []
theorem splV_bad {rs : List RowD} {row cell fresh : Int} (h : splE rs row cell fresh ≠ 0) : splV rs row cell fresh = [] := by unfold splV; rw [if_neg h]
theorem fQ_step (q : R6) (fresh : Int) (i : Nat) : fQ q fresh ((i + 1 : Nat) : Int) = fQ q fresh (i : Nat) + (wQ q : Nat) := by
  unfold fQ
  rw [show ((i + 1 : Nat) : Int) - q.top = ((i : Nat) : Int) - q.top + 1 by omega, Int.add_mul, Int.one_mul]; omega
theorem fQ_bound (q : R6) (fresh : Int) (i : Nat) (h1 : q.top ≤ (i : Int)) (h0 : 0 ≤ q.top) (h2 : i ≤ 2000) (h3 : wQ q ≤ 32) : fresh ≤ fQ q fresh (i : Nat) ∧ fQ q fresh (i : Nat) ≤ fresh + 64000 := by
  have a := Int.mul_nonneg (show 0 ≤ (i : Int) - q.top by omega) (show 0 ≤ ((wQ q : Nat) : Int) by omega)
  have b := Int.mul_le_mul (show (i : Int) - q.top ≤ 2000 by omega) (show ((wQ q : Nat) : Int) ≤ 32 by omega) (by omega) (by omega)
  unfold fQ; omega
theorem spl_cells (r : RowD) (k : Nat) (f : Int) (w : Nat) (h : k < r.cells.length) : ((encCs r.cells).set k (encC (clrC (cAt r.cells (k : Nat))))).take (k + 1) ++ encCs (newC f w) ++ ((encCs r.cells).set k (encC (clrC (cAt r.cells (k : Nat))))).drop (k + 1) = encCs (splR r k f w).cells := by
  have hl : k < (encCs r.cells).length := by rw [encCs_len]; exact h
  have e1 : ((encCs r.cells).set k (encC (clrC (cAt r.cells (k : Nat))))).take (k + 1) = (encCs r.cells).take k ++ [encC (clrC (cAt r.cells (k : Nat)))] := by
    rw [List.take_add_one, List.getElem?_set_self hl, List.take_set_of_le (Nat.le_refl _)]; rfl
  have e2 : ((encCs r.cells).set k (encC (clrC (cAt r.cells (k : Nat))))).drop (k + 1) = (encCs r.cells).drop (k + 1) := List.drop_set_of_lt (by omega)
  rw [e1, e2]
  simp [splR, encCs]
set_option maxHeartbeats 1000000 in
set_option maxRecDepth 100000 in
theorem GSplit_spec (I : List D → Prop) (hI : ∀ x, I x → Fun Try.prog 86 [.agg x] (.agg x)) (rs : List RowD) (hr : TabOk rs) (hl : rs.length ≤ 2000) (hB : TabB I rs) (row cell fresh : Int) : Fun Try.prog 29 [.sl 6 (encRs rs), .v (.int .i64 row), .v (.int .i64 cell), .v (.int .i64 fresh)] (.tup [.sl 6 (encRs (splV rs row cell fresh)), .v (.int .i64 (splE rs row cell fresh))]) := by
  refine Fun.enterF (n := 118) (rs := [.tmp 8, .tmp 9]) Try.func29 rfl Try.ntmps29 Try.results29 rfl (fun w F => ?_)
  have hk := encRs_len rs
  refine TC.seq ?_
  refine TC.region ?_
  refine TL.run1 (pure_assign rfl) rfl ?_
  refine TL.run1 (pure_assign rfl) rfl ?_
  refine TL.nil' ?_
  refine TC.seq ?_
  refine TC.region ?_
  refine TL.run1 (pure_move rfl) rfl ?_
  refine TL.run1 (pure_move rfl) rfl ?_
  refine TL.run1 (pure_move rfl) rfl ?_
  refine TL.run1 (pure_call (GPlace_spec rs hr hl row cell) (.cons rfl (.cons rfl (.cons rfl .nil))) Try.call26) rfl ?_
  refine TL.run1 (pure_move rfl) rfl ?_
  refine TL.run1 (pure_extract rfl rfl) rfl ?_
  refine TL.run1 (pure_extract rfl rfl) rfl ?_
  refine TL.alloc Ty.zero40 rfl (fun g10 => ?_)
  refine TL.store rfl rfl (.agg _) Try.sizeOf40 rfl (by repeat (first | exact UpdR.here _ | apply UpdR.there)) (by repeat (first | exact PutR.nil _ | apply PutR.here | apply PutR.skip)) ?_
  refine TL.run1 (pure_assign rfl) rfl ?_
  refine TL.nil' ?_
  refine TC.seq ?_
  refine TC.seq ?_
  refine TC.freezeBox 10 (List.cons_ne_nil _ _) (.here _) rfl ?_
  refine TC.region ?_
  refine TL.run1 (pure_move rfl) rfl ?_
  refine TL.run1 (pure_neq rfl rfl) rfl ?_
  refine TL.nil' ?_
  first | refine TC.condD rfl (fun hc27 => ?_) (fun hc27 => ?_) | refine TC.condN rfl (fun hc27 => ?_) (fun hc27 => ?_) | refine TC.cond rfl (fun hc27 => ?_) (fun hc27 => ?_)
  · try dsimp only at hc27
    refine TC.seq ?_
    refine TC.region ?_
    refine TL.run1 (pure_move rfl) rfl ?_
    refine TL.run1 (pure_assign rfl) rfl ?_
    refine TL.le 8 rfl (Le.nil 6) ?_
    refine TL.run1 (pure_assign rfl) rfl ?_
    refine TL.nil' ?_
    refine TC.ret ?_
    refine then_ret ?_
    have hspE : splE rs row cell fresh = placeE rs row cell := by (unfold splE; rw [if_pos hc27])
    rw [splV_bad (by rw [hspE]; exact hc27), hspE]
    exact retF2 (.inl rfl) rfl rfl (.tupL (.cons (.same _) (.cons (.same _) .nil)))
  · try dsimp only at hc27
    have hE : placeE rs row cell = 0 := Classical.not_not.1 hc27
    obtain ⟨hex, hne⟩ := placeE_zero hE
    have hv : Val rs row cell := place_val.2 ⟨hex, hne⟩
    have heq : (placeR rs row cell) = rectN rs row cell := by (unfold placeR; rw [if_pos ⟨hex, hne⟩])
    have hq := rect_range hv
    rw [← heq] at hq
    obtain ⟨q1, q2, q3, q4, q5, q6, q7, q8, q9⟩ := hq
    obtain ⟨T, hT⟩ : ∃ T : Nat, (placeR rs row cell).top = (T : Int) := ⟨(placeR rs row cell).top.toNat, by omega⟩
    obtain ⟨B, hB2⟩ : ∃ B : Nat, (placeR rs row cell).bottom = (B : Int) := ⟨(placeR rs row cell).bottom.toNat, by omega⟩
    have hw : ((wQ (placeR rs row cell) : Nat) : Int) = (placeR rs row cell).right - (placeR rs row cell).left - 1 := by (unfold wQ; omega)
    have hm0 : 0 ≤ ((placeR rs row cell).right - (placeR rs row cell).left - 1) * ((placeR rs row cell).bottom - (placeR rs row cell).top) := Int.mul_nonneg (by omega) (by omega)
    have hm1 : ((placeR rs row cell).right - (placeR rs row cell).left - 1) * ((placeR rs row cell).bottom - (placeR rs row cell).top) ≤ 31 * 2000 := Int.mul_le_mul (by omega) (by omega) (by omega) (by omega)
    refine TC.skip' ?_
    refine TC.seq ?_
    refine TC.region ?_
    first | refine TL.run1 (pure_fieldAddr Ty.f40_2 rfl (.succ (.succ (.zero _))) (List.cons_ne_nil _ _)) rfl ?_ | refine TL.run1 (pure_fieldAddr_own Ty.f40_2 rfl) rfl ?_
    first | refine TL.run1 (pure_load Ty.agg38 rfl (.succ (.succ (.succ (.succ (.zero _)))))) rfl ?_ | refine TL.run1 (pure_load_own Ty.agg38 rfl (by repeat (first | exact List.Mem.head _ | apply List.Mem.tail)) (by repeat (first | exact DropR.zero _ | apply DropR.succ)) (.succ (.succ (.succ (.succ (.zero _)))))) rfl ?_
    refine TL.alloc Ty.zero38 rfl (fun g12 => ?_)
    refine TL.store rfl rfl (.agg _) Try.sizeOf38 rfl (by repeat (first | exact UpdR.here _ | apply UpdR.there)) (by repeat (first | exact PutR.nil _ | apply PutR.here | apply PutR.skip)) ?_
    refine TL.nil' ?_
    refine TC.seq ?_
    refine TC.freezeBox 12 (List.cons_ne_nil _ _) (.here _) rfl ?_
    refine TC.region ?_
    first | refine TL.run1 (pure_fieldAddr Ty.f38_3 rfl (.succ (.succ (.succ (.zero _)))) (List.cons_ne_nil _ _)) rfl ?_ | refine TL.run1 (pure_fieldAddr_own Ty.f38_3 rfl) rfl ?_
    first | refine TL.run1 (pure_load1 Ty.one3 rfl) rfl ?_ | refine TL.run1 (pure_load1_own Ty.one3 rfl (by repeat (first | exact List.Mem.head _ | apply List.Mem.tail)) (by repeat (first | exact DropR.zero _ | apply DropR.succ))) rfl ?_
    first | refine TL.run1 (pure_fieldAddr Ty.f38_1 rfl (.succ (.zero _)) (List.cons_ne_nil _ _)) rfl ?_ | refine TL.run1 (pure_fieldAddr_own Ty.f38_1 rfl) rfl ?_
    first | refine TL.run1 (pure_load1 Ty.one3 rfl) rfl ?_ | refine TL.run1 (pure_load1_own Ty.one3 rfl (by repeat (first | exact List.Mem.head _ | apply List.Mem.tail)) (by repeat (first | exact DropR.zero _ | apply DropR.succ))) rfl ?_
    refine TL.run1 (pure_sub rfl rfl (mkI64 (by omega) (by omega))) rfl ?_
    refine TL.run1 (pure_sub rfl rfl (mkI64 (by omega) (by omega))) rfl ?_
    first | refine TL.run1 (pure_fieldAddr Ty.f38_2 rfl (.succ (.succ (.zero _))) (List.cons_ne_nil _ _)) rfl ?_ | refine TL.run1 (pure_fieldAddr_own Ty.f38_2 rfl) rfl ?_
    first | refine TL.run1 (pure_load1 Ty.one3 rfl) rfl ?_ | refine TL.run1 (pure_load1_own Ty.one3 rfl (by repeat (first | exact List.Mem.head _ | apply List.Mem.tail)) (by repeat (first | exact DropR.zero _ | apply DropR.succ))) rfl ?_
    first | refine TL.run1 (pure_fieldAddr Ty.f38_0 rfl (.zero _) (List.cons_ne_nil _ _)) rfl ?_ | refine TL.run1 (pure_fieldAddr_own Ty.f38_0 rfl) rfl ?_
    first | refine TL.run1 (pure_load1 Ty.one3 rfl) rfl ?_ | refine TL.run1 (pure_load1_own Ty.one3 rfl (by repeat (first | exact List.Mem.head _ | apply List.Mem.tail)) (by repeat (first | exact DropR.zero _ | apply DropR.succ))) rfl ?_
    refine TL.run1 (pure_sub rfl rfl (mkI64 (by omega) (by omega))) rfl ?_
    refine TL.run1 (pure_mul rfl rfl (mkI64 (by omega) (by omega))) rfl ?_
    refine TL.run1 (pure_assign rfl) rfl ?_
    refine TL.nil' ?_
    refine TC.seq ?_
    refine TC.regionCut [43, 44, 45, 46, 47, 48, 49, 50, 51, 52, 53, 54, 55] 55 (fresh < 1 ∨ fresh > 1073741824 ∨ nnQ (placeR rs row cell) > 1073741824 - fresh + 1) ?_ ?_
    · skip
      refine TL.run1 (pure_move rfl) rfl ?_
      refine TL.run1 (pure_lss rfl rfl) rfl ?_
      refine TL.run1 (pure_move rfl) rfl ?_
      first | refine TL.splitP 45 rfl (fun hg45 => ?_) (fun hg45 => ?_) | refine TL.split 45 rfl (fun hg45 => ?_) (fun hg45 => ?_)
      · try dsimp only at hg45
        refine TL.passG rfl rfl rfl rfl ?_
        refine TL.passG rfl rfl rfl rfl ?_
        refine TL.run1 (pure_pick_true rfl rfl) rfl ?_
        refine TL.run1 (pure_move rfl) rfl ?_
        refine TL.passG rfl rfl rfl rfl ?_
        refine TL.passG rfl rfl rfl rfl ?_
        refine TL.passG rfl rfl rfl rfl ?_
        refine TL.passG rfl rfl rfl rfl ?_
        refine TL.passG rfl rfl rfl rfl ?_
        refine TL.run1 (pure_pick_true rfl rfl) rfl ?_
        refine TL.cutEnd (by repeat (first | exact Same.refl _ _ | refine Same.put rfl ?_)) rfl ?_
        unfold nnQ
        first | (simp only [decide_eq_true_eq, Bool.false_eq_true, false_iff, true_iff, iff_true, iff_false, Bool.not_eq_true]; omega) | (simp_all; done) | (simp_all; omega) | grind
      · try dsimp only at hg45
        refine TL.runG rfl rfl (pure_move rfl) rfl ?_
        refine TL.runG rfl rfl (pure_gtr rfl rfl) rfl ?_
        refine TL.run1 (pure_pick_false rfl rfl) rfl ?_
        refine TL.run1 (pure_move rfl) rfl ?_
        first | refine TL.splitP 49 rfl (fun hg49 => ?_) (fun hg49 => ?_) | refine TL.split 49 rfl (fun hg49 => ?_) (fun hg49 => ?_)
        · try dsimp only at hg49
          refine TL.passG rfl rfl rfl rfl ?_
          refine TL.passG rfl rfl rfl rfl ?_
          refine TL.passG rfl rfl rfl rfl ?_
          refine TL.passG rfl rfl rfl rfl ?_
          refine TL.passG rfl rfl rfl rfl ?_
          refine TL.run1 (pure_pick_true rfl rfl) rfl ?_
          refine TL.cutEnd (by repeat (first | exact Same.refl _ _ | refine Same.put rfl ?_)) rfl ?_
          unfold nnQ
          first | (simp only [decide_eq_true_eq, Bool.false_eq_true, false_iff, true_iff, iff_true, iff_false, Bool.not_eq_true]; omega) | (simp_all; done) | (simp_all; omega) | grind
        · try dsimp only at hg49
          refine TL.runG rfl rfl (pure_move rfl) rfl ?_
          refine TL.runG rfl rfl (pure_move rfl) rfl ?_
          refine TL.runG rfl rfl (pure_sub rfl rfl (mkI64 (by omega) (by omega))) rfl ?_
          refine TL.runG rfl rfl (pure_add rfl rfl (mkI64 (by omega) (by omega))) rfl ?_
          refine TL.runG rfl rfl (pure_gtr rfl rfl) rfl ?_
          refine TL.run1 (pure_pick_false rfl rfl) rfl ?_
          refine TL.cutEnd (by repeat (first | exact Same.refl _ _ | refine Same.put rfl ?_)) rfl ?_
          unfold nnQ
          first | (simp only [decide_eq_true_eq, Bool.false_eq_true, false_iff, true_iff, iff_true, iff_false, Bool.not_eq_true]; omega) | (simp_all; done) | (simp_all; omega) | grind
    first | refine TC.condD rfl (fun hc55 => ?_) (fun hc55 => ?_) | refine TC.condN rfl (fun hc55 => ?_) (fun hc55 => ?_) | refine TC.cond rfl (fun hc55 => ?_) (fun hc55 => ?_)
    · try dsimp only at hc55
      refine TC.seq ?_
      refine TC.region ?_
      refine TL.run1 (pure_assign rfl) rfl ?_
      refine TL.le 8 rfl (Le.nil 6) ?_
      refine TL.run1 (pure_assign rfl) rfl ?_
      refine TL.nil' ?_
      refine TC.ret ?_
      refine then_ret ?_
      have hspE : splE rs row cell fresh = 18 := by (unfold splE; rw [if_neg (fun e => e hE), if_pos hc55])
      rw [splV_bad (by rw [hspE]; decide), hspE]
      exact retF2 (.inl rfl) rfl rfl (.tupL (.cons (.same _) (.cons (.same _) .nil)))
    · try dsimp only at hc55
      have hspE : splE rs row cell fresh = 0 := by (unfold splE; rw [if_neg (fun e => e hE), if_neg hc55])
      refine TC.skip' ?_
      refine TC.seq ?_
      refine TC.region ?_
      refine TL.run1 (pure_move rfl) rfl ?_
      refine TL.callD (SplitR.none _) (copied_spec I hI rs hB hl) (.cons rfl .nil) Try.call44 (fun t ht => by cases ht; exact of_decide_eq_true rfl) ?_
      rintro r2 H2 ⟨v14, vs, rfl, hvl, rfl⟩
      simp only [List.append_nil]
      refine TL.run1 (pure_assign rfl) rfl ?_
      refine TL.nil' ?_
      refine TC.seq ?_
      refine TC.seq ?_
      rw [← rowsX_start rs vs (placeR rs row cell) fresh T hT hvl, inB_split rs vs T hvl]
      refine TC.perm (List.Perm.cons _ List.perm_append_comm) ?_
      refine TC.region ?_
      first | refine TL.run1 (pure_fieldAddr Ty.f38_0 rfl (.zero _) (List.cons_ne_nil _ _)) rfl ?_ | refine TL.run1 (pure_fieldAddr_own Ty.f38_0 rfl) rfl ?_
      first | refine TL.run1 (pure_load1 Ty.one3 rfl) rfl ?_ | refine TL.run1 (pure_load1_own Ty.one3 rfl (by repeat (first | exact List.Mem.head _ | apply List.Mem.tail)) (by repeat (first | exact DropR.zero _ | apply DropR.succ))) rfl ?_
      refine TL.run1 (pure_assign rfl) rfl ?_
      refine TL.nil' ?_
      refine TC.block ?_
      refine TC.loopX (X := Nat × Int) (fun (i, F) => [(0, .sl 6 (encRs rs)), (3, .v (.int .i64 F)), (12, .at_ [.v (.int .i64 (placeR rs row cell).top), .v (.int .i64 (placeR rs row cell).left), .v (.int .i64 (placeR rs row cell).bottom), .v (.int .i64 (placeR rs row cell).right)]), (14, .v v14), (15, .v (.int .i64 i))]) (fun (i, F) => (Blk.row v14 36 6 (rowsX rs vs (placeR rs row cell) fresh i) :: (inB (rs.drop i) (vs.drop i) ++ inB (rs.take T) (vs.take T)))) (fun (i, F) => (T ≤ i) ∧ (i ≤ B) ∧ (F = fQ (placeR rs row cell) fresh (i : Nat))) (fun (i, F) => B - i) (T, fresh) ⟨by (try dsimp only); rw [← hT]; repeat (first | exact Agree.nil | refine Agree.cons rfl ?_), by (try dsimp only); repeat (first | exact List.nil_sublist _ | exact List.Sublist.refl _ | apply List.Sublist.cons_cons | apply List.Sublist.cons)⟩ ?_ ?_
      · skip
        exact ⟨Nat.le_refl _, by omega, by (unfold fQ; rw [hT]; simp)⟩
      rintro ⟨i, F⟩
      rintro ⟨h1, h2, hF⟩
      show TC _ _ _ (Env.of [(0, .sl 6 (encRs rs)), (3, .v (.int .i64 F)), (12, .at_ [.v (.int .i64 (placeR rs row cell).top), .v (.int .i64 (placeR rs row cell).left), .v (.int .i64 (placeR rs row cell).bottom), .v (.int .i64 (placeR rs row cell).right)]), (14, .v v14), (15, .v (.int .i64 i))]) (Blk.row v14 36 6 (rowsX rs vs (placeR rs row cell) fresh i) :: (inB (rs.drop i) (vs.drop i) ++ inB (rs.take T) (vs.take T)))
      refine TC.seq ?_
      refine TC.seq ?_
      refine TC.region ?_
      refine TL.run1 (pure_move rfl) rfl ?_
      first | refine TL.run1 (pure_fieldAddr Ty.f38_2 rfl (.succ (.succ (.zero _))) (List.cons_ne_nil _ _)) rfl ?_ | refine TL.run1 (pure_fieldAddr_own Ty.f38_2 rfl) rfl ?_
      first | refine TL.run1 (pure_load1 Ty.one3 rfl) rfl ?_ | refine TL.run1 (pure_load1_own Ty.one3 rfl (by repeat (first | exact List.Mem.head _ | apply List.Mem.tail)) (by repeat (first | exact DropR.zero _ | apply DropR.succ))) rfl ?_
      refine TL.run1 (pure_lss rfl rfl) rfl ?_
      refine TL.nil' ?_
      first | refine TC.condD rfl (fun hc63 => ?_) (fun hc63 => ?_) | refine TC.condN rfl (fun hc63 => ?_) (fun hc63 => ?_) | refine TC.cond rfl (fun hc63 => ?_) (fun hc63 => ?_)
      · try dsimp only at hc63
        have hiB : i < B := by omega
        have hil : i < rs.length := by omega
        have hrow := encRs_get rs (i : Int) (by omega) (by omega)
        have hro := hr.1 (rAt rs (i : Nat)) (rAt_mem rs (i : Int) (by omega) (by omega))
        have hrl := hro.2.2
        have hsl : (spansR (rAt rs (i : Nat))).length = (rAt rs (i : Nat)).cells.length := spansFrom_len _ _
        obtain ⟨k, hvk, hks⟩ := rect_row hv (i : Int) (by rw [← heq]; omega) (by rw [← heq]; omega)
        obtain ⟨kn, rfl⟩ : ∃ kn : Nat, k = (kn : Int) := ⟨k.toNat, by have := hvk.2.2.1; omega⟩
        have hid : idxS (spansR (rAt rs (i : Nat))) ((placeR rs row cell).left, (placeR rs row cell).right) = (kn : Int) := by (rw [show ((placeR rs row cell).left, (placeR rs row cell).right) = spN rs i kn by (rw [hks]; exact Prod.ext q8 q9)]; exact idxS_val hvk)
        have hkl : kn < (rAt rs (i : Nat)).cells.length := by (have := hvk.2.2.2.1; unfold ncN at this; omega)
        have hck := encCs_len (rAt rs (i : Nat)).cells
        have hx := rowsX_at rs vs (placeR rs row cell) fresh i hil
        obtain ⟨hci, hcl⟩ := hro.1 (cAt (rAt rs (i : Nat)).cells (kn : Nat)) (cAt_mem (rAt rs (i : Nat)).cells (kn : Int) (by omega) (by omega))
        have hx2 : (encCs (rAt rs (i : Nat)).cells)[kn]? = some (encC (cAt (rAt rs (i : Nat)).cells (kn : Nat))) := by (have := encCs_get (rAt rs (i : Nat)).cells (kn : Int) (by omega) (by omega); rwa [Int.toNat_natCast] at this)
        have hx3 : ((encCs (rAt rs (i : Nat)).cells).set kn (encC { (cAt (rAt rs (i : Nat)).cells (kn : Nat)) with props := clearP (cAt (rAt rs (i : Nat)).cells (kn : Nat)).props 60 }))[kn]? = some (encC { (cAt (rAt rs (i : Nat)).cells (kn : Nat)) with props := clearP (cAt (rAt rs (i : Nat)).cells (kn : Nat)).props 60 }) := by (rw [List.getElem?_set_self]; omega)
        have hc2l := clearP_len (cAt (rAt rs (i : Nat)).cells (kn : Nat)).props 60
        have hfb := fQ_bound (placeR rs row cell) fresh i (by omega) q1 (by omega) (by omega)
        have hspl : splI rs (placeR rs row cell) fresh (i : Nat) = splR (rAt rs (i : Nat)) kn F (wQ (placeR rs row cell)) := by (unfold splI; rw [hid, Int.toNat_natCast, hF])
        have hmore := newC_len F (wQ (placeR rs row cell))
        refine TC.skip' ?_
        refine TC.seq ?_
        refine TC.block ?_
        refine TC.seq ?_
        refine TC.draw Ty.follows (by kernel_rfl) ?_
        refine TD.run1 (pure_move rfl) rfl ?_
        refine TD.run1 (pure_move rfl) rfl ?_
        refine TD.run1 (pure_indexAddr Ty.sl22 rfl rfl (by omega) hrow (by simp [encR])) rfl ?_
        first | refine TD.run1 (pure_load Ty.agg36 rfl (.succ (.succ (.succ (.succ (.succ (.succ (.zero _)))))))) rfl ?_ | refine TD.run1 (pure_load_own Ty.agg36 rfl (by repeat (first | exact List.Mem.head _ | apply List.Mem.tail)) (by repeat (first | exact DropR.zero _ | apply DropR.succ)) (.succ (.succ (.succ (.succ (.succ (.succ (.zero _)))))))) rfl ?_
        refine TD.run1 (pure_call (spans_spec _ hro) (.cons rfl .nil) Try.call39) rfl ?_
        first | refine TD.run1 (pure_fieldAddr Ty.f38_1 rfl (.succ (.zero _)) (List.cons_ne_nil _ _)) rfl ?_ | refine TD.run1 (pure_fieldAddr_own Ty.f38_1 rfl) rfl ?_
        first | refine TD.run1 (pure_load1 Ty.one3 rfl) rfl ?_ | refine TD.run1 (pure_load1_own Ty.one3 rfl (by repeat (first | exact List.Mem.head _ | apply List.Mem.tail)) (by repeat (first | exact DropR.zero _ | apply DropR.succ))) rfl ?_
        first | refine TD.run1 (pure_fieldAddr Ty.f38_3 rfl (.succ (.succ (.succ (.zero _)))) (List.cons_ne_nil _ _)) rfl ?_ | refine TD.run1 (pure_fieldAddr_own Ty.f38_3 rfl) rfl ?_
        first | refine TD.run1 (pure_load1 Ty.one3 rfl) rfl ?_ | refine TD.run1 (pure_load1_own Ty.one3 rfl (by repeat (first | exact List.Mem.head _ | apply List.Mem.tail)) (by repeat (first | exact DropR.zero _ | apply DropR.succ))) rfl ?_
        refine TD.run1 (pure_build Ty.pl51 Ty.zero51 (.cons rfl rfl (.one rfl) rfl (.here (.nil _)) (.cons rfl rfl (.one rfl) rfl (.skip (.here (.nil _))) (.nil _)))) rfl ?_
        refine TD.run1 (pure_call (Index_spec (spansR (rAt rs (i : Nat))) ((placeR rs row cell).left, (placeR rs row cell).right) (by omega)) (.cons rfl (.cons rfl .nil)) Try.call45) rfl ?_
        refine TD.run1 (pure_assign rfl) rfl ?_
        refine TD.nil' ?_
        refine TC.seq ?_
        rw [hid, inB_drop rs vs i hil hvl, List.cons_append]
        refine TC.region ?_
        refine TL.run1 (pure_move rfl) rfl ?_
        refine TL.run1 (pure_move rfl) rfl ?_
        refine TL.indexRow Ty.sl22 rfl rfl (by repeat (first | exact List.Mem.head _ | apply List.Mem.tail)) (by omega) (by rw [rowsX_len]; omega) rfl (fun go hgo => ?_)
        first | refine TL.run1 (pure_fieldAddr Ty.f36_1 rfl (.succ (.succ (.succ (.succ (.succ (.zero _)))))) (List.cons_ne_nil _ _)) rfl ?_ | refine TL.run1 (pure_fieldAddr_own Ty.f36_1 rfl) rfl ?_
        refine TL.run1 (pure_load1_row (es := 6) (i := i) (o := 5) Ty.one34 (by decide) rfl hgo (by repeat (first | exact List.Mem.head _ | apply List.Mem.tail)) (by omega) hx (by repeat (first | exact DropR.zero _ | apply DropR.succ))) rfl ?_
        refine TL.run1 (pure_move rfl) rfl ?_
        refine TL.indexRow Ty.sl34 rfl rfl (by repeat (first | exact List.Mem.head _ | apply List.Mem.tail)) (by omega) (by omega) rfl (fun gi hgi => ?_)
        refine TL.run1 (pure_assign rfl) rfl ?_
        refine TL.nil' ?_
        refine TC.seq ?_
        refine TC.region ?_
        refine TL.run1 (pure_move rfl) rfl ?_
        refine TL.callD (.right (.left (SplitR.none _))) (put_spec (encCs (rAt rs (i : Nat)).cells) (vAt vs i) gi _ kn (cAt (rAt rs (i : Nat)).cells (kn : Nat)) 60 1 hgi (by rw [Int.toNat_natCast]) hx2 hci hcl) (.cons rfl (.cons rfl (.cons rfl (.cons rfl .nil)))) Try.call46 (fun t ht => by cases ht; exact of_decide_eq_true rfl) ?_
        rintro r2 H2 rfl
        simp only [List.cons_append, List.nil_append]
        refine TL.nil' ?_
        refine TC.seq ?_
        refine TC.region ?_
        refine TL.run1 (pure_move rfl) rfl ?_
        refine TL.callD (.left (SplitR.none _)) (put_spec ((encCs (rAt rs (i : Nat)).cells).set kn (encC { (cAt (rAt rs (i : Nat)).cells (kn : Nat)) with props := clearP (cAt (rAt rs (i : Nat)).cells (kn : Nat)).props 60 })) (vAt vs i) gi _ kn { (cAt (rAt rs (i : Nat)).cells (kn : Nat)) with props := clearP (cAt (rAt rs (i : Nat)).cells (kn : Nat)).props 60 } 61 0 hgi (by rw [Int.toNat_natCast]) hx3 (clearP_inc hci 60) (by (try dsimp only); omega)) (.cons rfl (.cons rfl (.cons rfl (.cons rfl .nil)))) Try.call46 (fun t ht => by cases ht; exact of_decide_eq_true rfl) ?_
        rintro r2 H2 rfl
        simp only [List.cons_append, List.nil_append]
        rw [List.set_set]
        change TL _ _ _ _ _ (Blk.row (vAt vs i) 74 7 ((encCs (rAt rs (i : Nat)).cells).set kn (encC (clrC (cAt (rAt rs (i : Nat)).cells (kn : Nat))))) :: _)
        refine TL.nil' ?_
        refine TC.seq ?_
        refine TC.region ?_
        refine TL.run1 (pure_assign rfl) rfl ?_
        refine TL.nil' ?_
        refine TC.seq ?_
        refine TC.seq ?_
        refine TC.nilrow 74 7 ?_
        refine TC.region ?_
        first | refine TL.run1 (pure_fieldAddr Ty.f38_3 rfl (.succ (.succ (.succ (.zero _)))) (List.cons_ne_nil _ _)) rfl ?_ | refine TL.run1 (pure_fieldAddr_own Ty.f38_3 rfl) rfl ?_
        first | refine TL.run1 (pure_load1 Ty.one3 rfl) rfl ?_ | refine TL.run1 (pure_load1_own Ty.one3 rfl (by repeat (first | exact List.Mem.head _ | apply List.Mem.tail)) (by repeat (first | exact DropR.zero _ | apply DropR.succ))) rfl ?_
        first | refine TL.run1 (pure_fieldAddr Ty.f38_1 rfl (.succ (.zero _)) (List.cons_ne_nil _ _)) rfl ?_ | refine TL.run1 (pure_fieldAddr_own Ty.f38_1 rfl) rfl ?_
        first | refine TL.run1 (pure_load1 Ty.one3 rfl) rfl ?_ | refine TL.run1 (pure_load1_own Ty.one3 rfl (by repeat (first | exact List.Mem.head _ | apply List.Mem.tail)) (by repeat (first | exact DropR.zero _ | apply DropR.succ))) rfl ?_
        refine TL.run1 (pure_sub rfl rfl (mkI64 (by omega) (by omega))) rfl ?_
        refine TL.run1 (pure_sub rfl rfl (mkI64 (by omega) (by omega))) rfl ?_
        refine TL.run1 (pure_move rfl) rfl ?_
        refine TL.nil' ?_
        refine TC.block ?_
        refine TC.loopX (X := Nat × Value) (fun (j, v) => [(0, .sl 6 (encRs rs)), (3, .v (.int .i64 (F + ((j : Nat) : Int)))), (12, .at_ [.v (.int .i64 (placeR rs row cell).top), .v (.int .i64 (placeR rs row cell).left), .v (.int .i64 (placeR rs row cell).bottom), .v (.int .i64 (placeR rs row cell).right)]), (14, .v v14), (15, .v (.int .i64 i)), (16, .v (.int .i64 ((kn : Nat) : Int))), (18, .v v), (93, .v (.int .i64 ((placeR rs row cell).right - (placeR rs row cell).left - 1))), (94, .v (.int .i64 j))]) (fun (j, v) => (Blk.row v 74 7 (encCs (newC F j)) :: Blk.row (vAt vs i) 74 7 ((encCs (rAt rs (i : Nat)).cells).set kn (encC (clrC (cAt (rAt rs (i : Nat)).cells (kn : Nat))))) :: Blk.row v14 36 6 (rowsX rs vs (placeR rs row cell) fresh i) :: (inB (rs.drop (i + 1)) (vs.drop (i + 1)) ++ inB (rs.take T) (vs.take T)))) (fun (j, v) => (j ≤ wQ (placeR rs row cell))) (fun (j, v) => wQ (placeR rs row cell) - j) (0, .slice none 0 0) ⟨by (try dsimp only); rw [show F + ((0 : Nat) : Int) = F by omega]; repeat (first | exact Agree.nil | refine Agree.cons rfl ?_), by skip; repeat (first | exact List.nil_sublist _ | exact List.Sublist.refl _ | apply List.Sublist.cons_cons | apply List.Sublist.cons)⟩ ?_ ?_
        · skip
          exact Nat.zero_le _
        rintro ⟨j, v⟩
        intro j1
        show TC _ _ _ (Env.of [(0, .sl 6 (encRs rs)), (3, .v (.int .i64 (F + ((j : Nat) : Int)))), (12, .at_ [.v (.int .i64 (placeR rs row cell).top), .v (.int .i64 (placeR rs row cell).left), .v (.int .i64 (placeR rs row cell).bottom), .v (.int .i64 (placeR rs row cell).right)]), (14, .v v14), (15, .v (.int .i64 i)), (16, .v (.int .i64 ((kn : Nat) : Int))), (18, .v v), (93, .v (.int .i64 ((placeR rs row cell).right - (placeR rs row cell).left - 1))), (94, .v (.int .i64 j))]) (Blk.row v 74 7 (encCs (newC F j)) :: Blk.row (vAt vs i) 74 7 ((encCs (rAt rs (i : Nat)).cells).set kn (encC (clrC (cAt (rAt rs (i : Nat)).cells (kn : Nat))))) :: Blk.row v14 36 6 (rowsX rs vs (placeR rs row cell) fresh i) :: (inB (rs.drop (i + 1)) (vs.drop (i + 1)) ++ inB (rs.take T) (vs.take T)))
        refine TC.seq ?_
        refine TC.region ?_
        refine TL.run1 (pure_lss rfl rfl) rfl ?_
        refine TL.nil' ?_
        refine TC.seq ?_
        first | refine TC.condD rfl (fun hc95 => ?_) (fun hc95 => ?_) | refine TC.condN rfl (fun hc95 => ?_) (fun hc95 => ?_) | refine TC.cond rfl (fun hc95 => ?_) (fun hc95 => ?_)
        · try dsimp only at hc95
          refine TC.skip' ?_
          refine TC.seq ?_
          refine TC.block ?_
          refine TC.seq ?_
          have hncl := newC_len F j
          have hnce := encCs_len (newC F j)
          refine TC.region ?_
          refine TL.run1 (pure_move rfl) rfl ?_
          refine TL.run1 (pure_move rfl) rfl ?_
          refine TL.run1 (pure_build Ty.pl74 Ty.zero74 (.cons rfl rfl (.one rfl) rfl (.here (.nil _)) (.nil _))) rfl ?_
          refine TL.le 98 rfl (Le.agg (.cons (Le.refl _) (.cons (Le.nil 2) (.cons (Le.refl _) (.cons (Le.refl _) (.cons (Le.nil 2) (.cons (Le.nil 4) (.cons (Le.nil 11) .nil)))))))) ?_
          refine TL.run1 (pure_buildSlice (xs := [.tmp 98]) Ty.app34 (by decide) rfl rfl (.cons rfl (.agg _) rfl .nil)) rfl ?_
          refine TL.append Ty.app34 rfl rfl (by intro _; repeat (first | exact UpdR.here _ | apply UpdR.there)) (by simp only [List.length_append, List.length_cons, List.length_nil]; omega) (by simp only [List.length_append, List.length_cons, List.length_nil]; omega) rfl (fun v100 hv100 => ?_)
          refine TL.run1 (pure_assign rfl) rfl ?_
          refine TL.nil' ?_
          refine TC.region ?_
          refine TL.run1 (pure_move rfl) rfl ?_
          refine TL.run1 (pure_add rfl rfl (mkI64 (by omega) (by omega))) rfl ?_
          refine TL.run1 (pure_assign rfl) rfl ?_
          refine TL.nil ?_
          refine block_normal ?_
          refine then_normal ?_
          refine TC.region ?_
          refine TL.run1 (pure_add rfl rfl (mkI64 (by omega) (by omega))) rfl ?_
          refine TL.run1 (pure_move rfl) rfl ?_
          refine TL.nil ?_
          have hst := newC_snoc F j
          refine loop_next (j + 1, v100) ⟨by ((try dsimp only); rw [show (((j + 1 : Nat)) : Int) = (j : Int) + 1 by omega, ← Int.add_assoc]; repeat (first | exact Agree.nil | refine Agree.cons rfl ?_)), by (try dsimp only); rw [hst]; repeat (first | exact List.nil_sublist _ | exact List.Sublist.refl _ | apply List.Sublist.cons_cons | apply List.Sublist.cons)⟩ (show j + 1 ≤ _ by omega) (by (try dsimp only); omega)
        · try dsimp only at hc95
          have hje : j = wQ (placeR rs row cell) := by omega
          subst hje
          have hnce := encCs_len (newC F (wQ (placeR rs row cell)))
          refine TC.exit ?_
          refine then_exit ?_
          refine loop_exit ?_
          refine block_here ?_
          refine then_normal ?_
          refine TC.region ?_
          refine TL.run1 (pure_move rfl) rfl ?_
          refine TL.run1 (pure_move rfl) rfl ?_
          refine TL.run1 (pure_move rfl) rfl ?_
          refine TL.run1 (pure_move rfl) rfl ?_
          refine TL.indexRow Ty.sl22 rfl rfl (by repeat (first | exact List.Mem.head _ | apply List.Mem.tail)) (by omega) (by rw [rowsX_len]; omega) rfl (fun go hgo => ?_)
          first | refine TL.run1 (pure_fieldAddr Ty.f36_1 rfl (.succ (.succ (.succ (.succ (.succ (.zero _)))))) (List.cons_ne_nil _ _)) rfl ?_ | refine TL.run1 (pure_fieldAddr_own Ty.f36_1 rfl) rfl ?_
          refine TL.run1 (pure_load1_row (es := 6) (i := i) (o := 5) Ty.one34 (by decide) rfl hgo (by repeat (first | exact List.Mem.head _ | apply List.Mem.tail)) (by omega) hx (by repeat (first | exact DropR.zero _ | apply DropR.succ))) rfl ?_
          refine TL.run1 (pure_move rfl) rfl ?_
          refine TL.run1 (pure_add rfl rfl (mkI64 (by omega) (by omega))) rfl ?_
          refine TL.run1 (pure_move rfl) rfl ?_
          refine TL.callD (.left (.left (SplitR.none _))) (insertAll_spec ((encCs (rAt rs (i : Nat)).cells).set kn (encC (clrC (cAt (rAt rs (i : Nat)).cells (kn : Nat))))) (encCs (newC F (wQ (placeR rs row cell)))) (vAt vs i) v (kn + 1) (by rw [List.length_set]; omega) (by intro h; have h2 := congrArg List.length h; rw [List.length_set, hck] at h2; simp only [List.length_nil] at h2; omega) (by rw [List.length_set]; omega) (encCs_each _)) (.cons rfl (.cons (show some _ = some _ from by rw [show (((kn + 1 : Nat)) : Int) = (kn : Int) + 1 by omega]) (.cons rfl .nil))) Try.call47 (fun t ht => by cases ht; exact of_decide_eq_true rfl) ?_
          rintro r2 H2 ⟨v114, rfl, rfl⟩
          simp only [List.cons_append, List.nil_append]
          rw [spl_cells (rAt rs (i : Nat)) kn F (wQ (placeR rs row cell)) hkl]
          refine TL.freeze 114 (show (0 : Nat) < 7 by decide) (.here _) rfl ?_
          refine TL.indexRow Ty.sl22 rfl rfl (by repeat (first | exact List.Mem.head _ | apply List.Mem.tail)) (by omega) (by rw [rowsX_len]; omega) rfl (fun go hgo => ?_)
          first | refine TL.run1 (pure_fieldAddr Ty.f36_1 rfl (.succ (.succ (.succ (.succ (.succ (.zero _)))))) (List.cons_ne_nil _ _)) rfl ?_ | refine TL.run1 (pure_fieldAddr_own Ty.f36_1 rfl) rfl ?_
          refine TL.storeRow (es := 6) (i := i) (o := 5) (c' := encR (splR (rAt rs (i : Nat)) kn F (wQ (placeR rs row cell)))) rfl hgo (by omega) rfl (.one rfl) Try.sizeOf34 rfl (by repeat (first | exact UpdR.here _ | apply UpdR.there)) hx (by repeat (first | exact PutR.nil _ | apply PutR.here | apply PutR.skip)) ?_
          rw [← hspl, ← rowsX_step rs vs (placeR rs row cell) fresh i hil (by omega)]
          refine TL.nil ?_
          refine block_normal ?_
          refine then_normal ?_
          refine TC.region ?_
          refine TL.run1 (pure_move rfl) rfl ?_
          refine TL.run1 (pure_add rfl rfl (mkI64 (by omega) (by omega))) rfl ?_
          refine TL.run1 (pure_assign rfl) rfl ?_
          refine TL.nil ?_
          refine loop_next (i + 1, F + ((wQ (placeR rs row cell) : Nat) : Int)) ⟨by ((try dsimp only); rw [show (((i + 1 : Nat)) : Int) = (i : Int) + 1 by omega]; repeat (first | exact Agree.nil | refine Agree.cons rfl ?_)), by (try dsimp only); repeat (first | exact List.nil_sublist _ | exact List.Sublist.refl _ | apply List.Sublist.cons_cons | apply List.Sublist.cons)⟩ ⟨by omega, by omega, by (rw [fQ_step, ← hF])⟩ (by (try dsimp only); omega)
      · try dsimp only at hc63
        refine TC.exit ?_
        refine then_exit ?_
        refine loop_exit ?_
        refine block_here ?_
        refine then_normal ?_
        refine TC.seq ?_
        refine TC.region ?_
        refine TL.run1 (pure_move rfl) rfl ?_
        refine TL.run1 (pure_assign rfl) rfl ?_
        refine TL.run1 (pure_assign rfl) rfl ?_
        refine TL.nil' ?_
        refine TC.ret ?_
        have hie : i = B := by omega
        subst hie
        unfold splV; rw [hspE, if_pos rfl]
        exact retF2 (.inl rfl) rfl rfl (.tupL (.cons (split_frz rs vs (placeR rs row cell) fresh T i v14 hvl hT hB2 (by omega)) (.cons (.same _) .nil)))
end Go.Ob
