import Derived.Test.YtlhjcleejolbiaaC4
import Derived.Test.YtlhjcleejolbiaaObX
set_option linter.unusedVariables false
set_option linter.unusedSimpArgs false
namespace Go.Ob
open Go.Proofs

theorem setTo_clear (ps : List (Int × Int)) (key u : Int) : ∀ (i : Nat), i ≤ ps.length → setTo ps key u u i = (clearP (ps.take i) key, true)
  | 0, _ => by simp [setTo, clearP]
  | i + 1, h => by
    rw [setTo, setTo_clear ps key u i (by omega), List.take_add_one, List.getElem?_eq_getElem (by omega)]
    have e : pAt ps (i : Nat) = ps[i] := by simp [pAt, show i < ps.length by omega]
    rw [e]
    unfold setStep clearP
    rw [List.filter_append]
    by_cases hk : ps[i].1 = key
    · rw [if_neg (fun h => h hk)]; simp [List.filter_cons, hk]
    · rw [if_pos hk]; simp [List.filter_cons, hk]
theorem setR_clear (ps : List (Int × Int)) (key u : Int) : setR ps key u u = clearP ps key := by
  unfold setR
  rw [setTo_clear ps key u ps.length (Nat.le_refl _), List.take_length]; rfl
theorem setC_spec (ps : List (Int × Int)) (key u : Int) (hl : ps.length ≤ 1000) : Fun Try.prog 49 [.sl 2 (encP ps), .v (.int .i64 key), .v (.int .i64 u), .v (.int .i64 u)] (.sl 2 (encP (clearP ps key))) := by
  rw [← setR_clear ps key u]; exact set_spec ps key u u hl
def fR (q : R6) (fresh : Int) (i : Nat) : Int := fQ q fresh (max (min (i : Int) q.bottom) q.top)
theorem fR_zero (q : R6) (fresh : Int) (h0 : 0 ≤ q.top) (h1 : q.top ≤ q.bottom) : fR q fresh 0 = fresh := by
  unfold fR fQ
  rw [show max (min ((0 : Nat) : Int) q.bottom) q.top = q.top by omega]; simp
theorem fR_at (q : R6) (fresh : Int) (i : Nat) (h0 : q.top ≤ (i : Int)) (h1 : (i : Int) < q.bottom) : fR q fresh i = fQ q fresh (i : Nat) := by
  unfold fR; rw [show max (min (i : Int) q.bottom) q.top = (i : Int) by omega]
theorem fR_in (q : R6) (fresh : Int) (i : Nat) (h0 : q.top ≤ (i : Int)) (h1 : (i : Int) < q.bottom) : fR q fresh (i + 1) = fR q fresh i + (wQ q : Nat) := by
  rw [fR_at q fresh i h0 h1, ← fQ_step]
  unfold fR; rw [show max (min ((i + 1 : Nat) : Int) q.bottom) q.top = ((i + 1 : Nat) : Int) by omega]
theorem fR_out (q : R6) (fresh : Int) (i : Nat) (h : ¬ (q.top ≤ (i : Int) ∧ (i : Int) < q.bottom)) (h1 : q.top ≤ q.bottom) : fR q fresh (i + 1) = fR q fresh i := by
  unfold fR; rw [show max (min ((i + 1 : Nat) : Int) q.bottom) q.top = max (min (i : Int) q.bottom) q.top by omega]
theorem fR_end (q : R6) (fresh : Int) (n : Nat) (h : q.bottom ≤ (n : Int)) (h1 : q.top ≤ q.bottom) (h2 : q.left < q.right) : fR q fresh n = fresh + nnQ q := by
  unfold fR fQ nnQ wQ
  rw [show max (min (n : Int) q.bottom) q.top = q.bottom by omega, Int.toNat_of_nonneg (by omega), Int.mul_comm]
theorem splT_at (rs : List RowD) (q : R6) (fresh : Int) (i : Nat) (h : i < rs.length) : (splT rs q fresh)[i]? = some (if q.top ≤ (i : Int) ∧ (i : Int) < q.bottom then splI rs q fresh (i : Nat) else rAt rs (i : Nat)) := by
  simp [splT, h]
theorem splT_step (rs : List RowD) (q : R6) (fresh : Int) (i : Nat) (h : i < rs.length) : encRs ((splT rs q fresh).take (i + 1)) = encRs ((splT rs q fresh).take i) ++ [encR (if q.top ≤ (i : Int) ∧ (i : Int) < q.bottom then splI rs q fresh (i : Nat) else rAt rs (i : Nat))] := by
  rw [take_next (splT_at rs q fresh i h)]; simp [encRs]
theorem splR_cells (r : RowD) (k : Nat) (f : Int) (w : Nat) : encCs (r.cells.take k ++ [clrC (cAt r.cells (k : Nat))] ++ newC f w) ++ ((encCs r.cells).take (encCs r.cells).length).drop (k + 1) = encCs (splR r k f w).cells := by
  rw [List.take_length]
  simp [encCs, splR]
theorem spl_first (r : RowD) (k : Nat) (c : CellD) (f : Int) : [] ++ (encCs r.cells).take k ++ [encC c] = encCs (r.cells.take k ++ [c] ++ newC f 0) := by
  simp [encCs, newC]
theorem spl_snoc (a : List CellD) (f : Int) (j : Nat) : encCs (a ++ newC f j) ++ [encC (freshC (f + j))] = encCs (a ++ newC f (j + 1)) := by
  have := newC_snoc f j
  simp only [encCs, List.map_append] at *
  rw [this, List.append_assoc]
set_option maxHeartbeats 1000000 in
set_option maxRecDepth 100000 in
theorem RSplit_spec (rs : List RowD) (hr : TabOk rs) (hl : rs.length ≤ 2000) (hP : ∀ r ∈ rs, ∀ c ∈ r.cells, c.props.length ≤ 900) (row cell fresh : Int) (hv : Val rs row cell) (hf : 1 ≤ fresh ∧ fresh ≤ 1073741824) : Fun Try.prog 30 [.sl 6 (encRs rs), .v (.int .i64 row), .v (.int .i64 cell), .v (.int .i64 fresh)] (.tup [.sl 6 (encRs (splT rs (rectN rs row cell) fresh)), .v (.int .i64 (fresh + nnQ (rectN rs row cell)))]) := by
  refine Fun.enterF (n := 110) (rs := [.tmp 8, .tmp 9]) Try.func30 rfl Try.ntmps30 Try.results30 rfl (fun w F => ?_)
  have hk := encRs_len rs
  obtain ⟨i0, i1, k0, k1, hne⟩ := id hv
  have hq := rect_range hv
  obtain ⟨q1, q2, q3, q4, q5, q6, q7, q8, q9⟩ := hq
  have hrow0 := encRs_get rs row i0 i1
  have hro0 := hr.1 (rAt rs row) (rAt_mem rs row i0 i1)
  have hw : ((wQ (rectN rs row cell) : Nat) : Int) = (rectN rs row cell).right - (rectN rs row cell).left - 1 := by (unfold wQ; omega)
  unfold ncN at k1
  refine TC.seq ?_
  refine TC.region ?_
  refine TL.run1 (pure_assign rfl) rfl ?_
  refine TL.run1 (pure_assign rfl) rfl ?_
  refine TL.nil' ?_
  refine TC.seq ?_
  refine TC.region ?_
  refine TL.run1 (pure_move rfl) rfl ?_
  refine TL.run1 (pure_move rfl) rfl ?_
  refine TL.run1 (pure_indexAddr Ty.sl22 rfl rfl (by omega) hrow0 (by simp [encR])) rfl ?_
  first | refine TL.run1 (pure_load Ty.agg36 rfl (.succ (.succ (.succ (.succ (.succ (.succ (.zero _)))))))) rfl ?_ | refine TL.run1 (pure_load_own Ty.agg36 rfl (by repeat (first | exact List.Mem.head _ | apply List.Mem.tail)) (by repeat (first | exact DropR.zero _ | apply DropR.succ)) (.succ (.succ (.succ (.succ (.succ (.succ (.zero _)))))))) rfl ?_
  refine TL.run1 (pure_move rfl) rfl ?_
  refine TL.run1 (pure_call (span_spec _ hro0 cell (by omega) (by omega)) (.cons rfl (.cons rfl .nil)) Try.call19) rfl ?_
  refine TL.run1 (pure_move rfl) rfl ?_
  refine TL.run1 (pure_extract rfl rfl) rfl ?_
  refine TL.run1 (pure_extract rfl rfl) rfl ?_
  refine TL.run1 (pure_assign rfl) rfl ?_
  refine TL.run1 (pure_assign rfl) rfl ?_
  refine TL.nil' ?_
  refine TC.seq ?_
  refine TC.region ?_
  refine TL.run1 (pure_move rfl) rfl ?_
  refine TL.run1 (pure_move rfl) rfl ?_
  refine TL.run1 (pure_move rfl) rfl ?_
  refine TL.run1 (pure_call (RPlace_spec rs hr row cell hv) (.cons rfl (.cons rfl (.cons rfl .nil))) Try.call38) rfl ?_
  refine TL.run1 (pure_move rfl) rfl ?_
  refine TL.run1 (pure_extract rfl rfl) rfl ?_
  refine TL.run1 (pure_extract rfl rfl) rfl ?_
  refine TL.run1 (pure_extract rfl rfl) rfl ?_
  refine TL.run1 (pure_assign rfl) rfl ?_
  refine TL.run1 (pure_assign rfl) rfl ?_
  refine TL.run1 (pure_assign rfl) rfl ?_
  refine TL.nil' ?_
  refine TC.seq ?_
  refine TC.region ?_
  refine TL.run1 (pure_assign rfl) rfl ?_
  refine TL.nil' ?_
  refine TC.seq ?_
  refine TC.seq ?_
  refine TC.nilrow 36 6 ?_
  refine TC.region ?_
  refine TL.run1 (pure_assign rfl) rfl ?_
  refine TL.nil' ?_
  refine TC.block ?_
  refine TC.loopX (X := Nat × Int × Value) (fun (i, F, v) => [(0, .sl 6 (encRs rs)), (3, .v (.int .i64 F)), (10, .v (.int .i64 (rectN rs row cell).left)), (11, .v (.int .i64 (rectN rs row cell).right)), (12, .v (.int .i64 (rectN rs row cell).top)), (14, .v (.int .i64 (rectN rs row cell).bottom)), (15, .v v), (16, .v (.int .i64 i))]) (fun (i, F, v) => [.row v 36 6 (encRs ((splT rs (rectN rs row cell) fresh).take i))]) (fun (i, F, v) => (i ≤ rs.length) ∧ (F = fR (rectN rs row cell) fresh i)) (fun (i, F, v) => rs.length - i) (0, fresh, .slice none 0 0) ⟨by skip; repeat (first | exact Agree.nil | refine Agree.cons rfl ?_), by skip; repeat (first | exact List.nil_sublist _ | exact List.Sublist.refl _ | apply List.Sublist.cons_cons | apply List.Sublist.cons)⟩ ?_ ?_
  · skip
    exact ⟨Nat.zero_le _, (fR_zero (rectN rs row cell) fresh q1 (by omega)).symm⟩
  rintro ⟨i, F, v⟩
  rintro ⟨h1, hF⟩
  show TC _ _ _ (Env.of [(0, .sl 6 (encRs rs)), (3, .v (.int .i64 F)), (10, .v (.int .i64 (rectN rs row cell).left)), (11, .v (.int .i64 (rectN rs row cell).right)), (12, .v (.int .i64 (rectN rs row cell).top)), (14, .v (.int .i64 (rectN rs row cell).bottom)), (15, .v v), (16, .v (.int .i64 i))]) [.row v 36 6 (encRs ((splT rs (rectN rs row cell) fresh).take i))]
  refine TC.seq ?_
  refine TC.seq ?_
  refine TC.region ?_
  refine TL.run1 (pure_move rfl) rfl ?_
  refine TL.run1 (pure_move rfl) rfl ?_
  first | refine TL.run1 (pure_len Ty.sl22 rfl) rfl ?_ | refine TL.run1 (pure_len_row Ty.sl22 rfl (by repeat (first | exact List.Mem.head _ | apply List.Mem.tail))) rfl ?_ | refine TL.run1 (pure_len_nil Ty.sl22 rfl) rfl ?_
  refine TL.run1 (pure_lss rfl rfl) rfl ?_
  refine TL.nil' ?_
  first | refine TC.condD rfl (fun hc42 => ?_) (fun hc42 => ?_) | refine TC.condN rfl (fun hc42 => ?_) (fun hc42 => ?_) | refine TC.cond rfl (fun hc42 => ?_) (fun hc42 => ?_)
  · try dsimp only at hc42
    refine TC.skip' ?_
    refine TC.seq ?_
    refine TC.block ?_
    refine TC.seq ?_
    have hil : i < rs.length := by omega
    have hrow := encRs_get rs (i : Int) (by omega) (by omega)
    have hro := hr.1 (rAt rs (i : Nat)) (rAt_mem rs (i : Int) (by omega) (by omega))
    have hrl := hro.2.2
    have hck := encCs_len (rAt rs (i : Nat)).cells
    have hsk := encRs_len ((splT rs (rectN rs row cell) fresh).take i)
    have hsl : ((splT rs (rectN rs row cell) fresh).take i).length ≤ i := List.length_take_le _ _
    refine TC.region ?_
    refine TL.run1 (pure_move rfl) rfl ?_
    refine TL.run1 (pure_move rfl) rfl ?_
    refine TL.run1 (pure_indexAddr Ty.sl22 rfl rfl (by omega) hrow (by simp [encR])) rfl ?_
    first | refine TL.run1 (pure_load Ty.agg36 rfl (.succ (.succ (.succ (.succ (.succ (.succ (.zero _)))))))) rfl ?_ | refine TL.run1 (pure_load_own Ty.agg36 rfl (by repeat (first | exact List.Mem.head _ | apply List.Mem.tail)) (by repeat (first | exact DropR.zero _ | apply DropR.succ)) (.succ (.succ (.succ (.succ (.succ (.succ (.zero _)))))))) rfl ?_
    refine TL.alloc Ty.zero36 rfl (fun g17 => ?_)
    refine TL.store rfl rfl (.agg _) Try.sizeOf36 rfl (by repeat (first | exact UpdR.here _ | apply UpdR.there)) (by repeat (first | exact PutR.nil _ | apply PutR.here | apply PutR.skip)) ?_
    refine TL.nil' ?_
    refine TC.seq ?_
    refine TC.regionCut [49, 50, 51, 52, 53, 54, 55, 56] 56 ((rectN rs row cell).top ≤ (i : Int) ∧ (i : Int) < (rectN rs row cell).bottom) ?_ ?_
    · skip
      refine TL.run1 (pure_move rfl) rfl ?_
      refine TL.run1 (pure_move rfl) rfl ?_
      refine TL.run1 (pure_geq rfl rfl) rfl ?_
      refine TL.run1 (pure_move rfl) rfl ?_
      first | refine TL.splitP 52 rfl (fun hg52 => ?_) (fun hg52 => ?_) | refine TL.split 52 rfl (fun hg52 => ?_) (fun hg52 => ?_)
      · try dsimp only at hg52
        refine TL.runG rfl rfl (pure_move rfl) rfl ?_
        refine TL.runG rfl rfl (pure_move rfl) rfl ?_
        refine TL.runG rfl rfl (pure_lss rfl rfl) rfl ?_
        refine TL.run1 (pure_pick_true rfl rfl) rfl ?_
        refine TL.cutEnd (by repeat (first | exact Same.refl _ _ | refine Same.put rfl ?_)) rfl ?_
        first | (simp only [decide_eq_true_eq, Bool.false_eq_true, false_iff, true_iff, iff_true, iff_false, Bool.not_eq_true]; omega) | (simp_all; done) | (simp_all; omega) | grind
      · try dsimp only at hg52
        refine TL.passG rfl rfl rfl rfl ?_
        refine TL.passG rfl rfl rfl rfl ?_
        refine TL.passG rfl rfl rfl rfl ?_
        refine TL.run1 (pure_pick_false rfl rfl) rfl ?_
        refine TL.cutEnd (by repeat (first | exact Same.refl _ _ | refine Same.put rfl ?_)) rfl ?_
        first | (simp only [decide_eq_true_eq, Bool.false_eq_true, false_iff, true_iff, iff_true, iff_false, Bool.not_eq_true]; omega) | (simp_all; done) | (simp_all; omega) | grind
    first | refine TC.condD rfl (fun hc56 => ?_) (fun hc56 => ?_) | refine TC.condN rfl (fun hc56 => ?_) (fun hc56 => ?_) | refine TC.cond rfl (fun hc56 => ?_) (fun hc56 => ?_)
    · try dsimp only at hc56
      obtain ⟨k, hvk, hks⟩ := rect_row hv (i : Int) hc56.1 hc56.2
      obtain ⟨kn, rfl⟩ : ∃ kn : Nat, k = (kn : Int) := ⟨k.toNat, by have := hvk.2.2.1; omega⟩
      have hid : idxS (spansR (rAt rs (i : Nat))) ((rectN rs row cell).left, (rectN rs row cell).right) = (kn : Int) := by (rw [show ((rectN rs row cell).left, (rectN rs row cell).right) = spN rs i kn by (rw [hks]; exact Prod.ext q8 q9)]; exact idxS_val hvk)
      have hsa : sameN (rAt rs (i : Nat)) (rectN rs row cell).left (rectN rs row cell).right = (kn : Int) := by (have := sameN_val hvk; rwa [hks, ← q8, ← q9] at this)
      have hkl : kn < (rAt rs (i : Nat)).cells.length := by (have := hvk.2.2.2.1; unfold ncN at this; omega)
      have hx2 : (encCs (rAt rs (i : Nat)).cells)[kn]? = some (encC (cAt (rAt rs (i : Nat)).cells (kn : Nat))) := by (have := encCs_get (rAt rs (i : Nat)).cells (kn : Int) (by omega) (by omega); rwa [Int.toNat_natCast] at this)
      have hpl := hP (rAt rs (i : Nat)) (rAt_mem rs (i : Int) (by omega) (by omega)) (cAt (rAt rs (i : Nat)).cells (kn : Nat)) (cAt_mem (rAt rs (i : Nat)).cells (kn : Int) (by omega) (by omega))
      have hpl2 := clearP_len (cAt (rAt rs (i : Nat)).cells (kn : Nat)).props 60
      have hfi := fR_at (rectN rs row cell) fresh i hc56.1 hc56.2
      have hfb := fQ_bound (rectN rs row cell) fresh i hc56.1 q1 (by omega) (by omega)
      have hspl : splI rs (rectN rs row cell) fresh (i : Nat) = splR (rAt rs (i : Nat)) kn F (wQ (rectN rs row cell)) := by (unfold splI; rw [hid, Int.toNat_natCast, hF, hfi])
      refine TC.seq ?_
      refine TC.region ?_
      first | refine TL.run1 (pure_load Ty.agg36 rfl (.succ (.succ (.succ (.succ (.succ (.succ (.zero _)))))))) rfl ?_ | refine TL.run1 (pure_load_own Ty.agg36 rfl (by repeat (first | exact List.Mem.head _ | apply List.Mem.tail)) (by repeat (first | exact DropR.zero _ | apply DropR.succ)) (.succ (.succ (.succ (.succ (.succ (.succ (.zero _)))))))) rfl ?_
      refine TL.run1 (pure_move rfl) rfl ?_
      refine TL.run1 (pure_move rfl) rfl ?_
      refine TL.run1 (pure_call (Same_spec (rAt rs (i : Nat)) hro _ _) (.cons rfl (.cons rfl (.cons rfl .nil))) Try.call48) rfl ?_
      refine TL.run1 (pure_assign rfl) rfl ?_
      refine TL.nil' ?_
      refine TC.seq ?_
      rw [hsa]
      refine TC.region ?_
      first | refine TL.run1 (pure_fieldAddr Ty.f36_1 rfl (.succ (.succ (.succ (.succ (.succ (.zero _)))))) (List.cons_ne_nil _ _)) rfl ?_ | refine TL.run1 (pure_fieldAddr_own Ty.f36_1 rfl) rfl ?_
      first | refine TL.run1 (pure_load1 Ty.one34 rfl) rfl ?_ | refine TL.run1 (pure_load1_own Ty.one34 rfl (by repeat (first | exact List.Mem.head _ | apply List.Mem.tail)) (by repeat (first | exact DropR.zero _ | apply DropR.succ))) rfl ?_
      refine TL.run1 (pure_move rfl) rfl ?_
      refine TL.run1 (pure_indexAddr Ty.sl34 rfl rfl (by omega) (by rw [Int.toNat_natCast]; exact hx2) (List.cons_ne_nil _ _)) rfl ?_
      first | refine TL.run1 (pure_load Ty.agg74 rfl (.succ (.succ (.succ (.succ (.succ (.succ (.succ (.zero _))))))))) rfl ?_ | refine TL.run1 (pure_load_own Ty.agg74 rfl (by repeat (first | exact List.Mem.head _ | apply List.Mem.tail)) (by repeat (first | exact DropR.zero _ | apply DropR.succ)) (.succ (.succ (.succ (.succ (.succ (.succ (.succ (.zero _))))))))) rfl ?_
      refine TL.alloc Ty.zero74 rfl (fun g19 => ?_)
      refine TL.store rfl rfl (.agg _) Try.sizeOf74 rfl (by repeat (first | exact UpdR.here _ | apply UpdR.there)) (by repeat (first | exact PutR.nil _ | apply PutR.here | apply PutR.skip)) ?_
      refine TL.nil' ?_
      refine TC.seq ?_
      refine TC.region ?_
      first | refine TL.run1 (pure_fieldAddr Ty.f74_1 rfl (.succ (.zero _)) (List.cons_ne_nil _ _)) rfl ?_ | refine TL.run1 (pure_fieldAddr_own Ty.f74_1 rfl) rfl ?_
      first | refine TL.run1 (pure_fieldAddr Ty.f33_0 rfl (.zero _) (List.cons_ne_nil _ _)) rfl ?_ | refine TL.run1 (pure_fieldAddr_own Ty.f33_0 rfl) rfl ?_
      first | refine TL.run1 (pure_load1 Ty.one27 rfl) rfl ?_ | refine TL.run1 (pure_load1_own Ty.one27 rfl (by repeat (first | exact List.Mem.head _ | apply List.Mem.tail)) (by repeat (first | exact DropR.zero _ | apply DropR.succ))) rfl ?_
      first | refine TL.run1 (pure_call (setC_spec (cAt (rAt rs (i : Nat)).cells (kn : Nat)).props 60 1 (by omega)) (.cons rfl (.cons rfl (.cons rfl (.cons rfl .nil)))) Try.call49) rfl ?_ | refine TL.run1 (pure_call (setC_spec (clearP (cAt (rAt rs (i : Nat)).cells (kn : Nat)).props 60) 61 0 (by omega)) (.cons rfl (.cons rfl (.cons rfl (.cons rfl .nil)))) Try.call49) rfl ?_
      first | refine TL.run1 (pure_call (setC_spec (cAt (rAt rs (i : Nat)).cells (kn : Nat)).props 60 1 (by omega)) (.cons rfl (.cons rfl (.cons rfl (.cons rfl .nil)))) Try.call49) rfl ?_ | refine TL.run1 (pure_call (setC_spec (clearP (cAt (rAt rs (i : Nat)).cells (kn : Nat)).props 60) 61 0 (by omega)) (.cons rfl (.cons rfl (.cons rfl (.cons rfl .nil)))) Try.call49) rfl ?_
      first | refine TL.run1 (pure_fieldAddr Ty.f74_1 rfl (.succ (.zero _)) (List.cons_ne_nil _ _)) rfl ?_ | refine TL.run1 (pure_fieldAddr_own Ty.f74_1 rfl) rfl ?_
      first | refine TL.run1 (pure_fieldAddr Ty.f33_0 rfl (.zero _) (List.cons_ne_nil _ _)) rfl ?_ | refine TL.run1 (pure_fieldAddr_own Ty.f33_0 rfl) rfl ?_
      refine TL.store rfl rfl (.one (by first | rfl | assumption)) Try.sizeOf27 rfl (by repeat (first | exact UpdR.here _ | apply UpdR.there)) (by repeat (first | exact PutR.nil _ | apply PutR.here | apply PutR.skip)) ?_
      refine TL.nil' ?_
      refine TC.seq ?_
      refine TC.drawSp 9 [0, 5, 8] [Blk.box g19 74 (encC (clrC (cAt (rAt rs (i : Nat)).cells (kn : Nat)))), Blk.box g17 36 (encR (rAt rs (i : Nat)))] Ty.follows (by decide) (by kernel_rfl) (by kernel_rfl) (by kernel_rfl) ?_
      refine TD.mute ?_
      first | refine TD.run1 (pure_fieldAddr Ty.f36_1 rfl (.succ (.succ (.succ (.succ (.succ (.zero _)))))) (List.cons_ne_nil _ _)) rfl ?_ | refine TD.run1 (pure_fieldAddr_own Ty.f36_1 rfl) rfl ?_
      first | refine TD.run1 (pure_load1 Ty.one34 rfl) rfl ?_ | refine TD.run1 (pure_load1_own Ty.one34 rfl (by repeat (first | exact List.Mem.head _ | apply List.Mem.tail)) (by repeat (first | exact DropR.zero _ | apply DropR.succ))) rfl ?_
      refine TD.run1 (pure_move rfl) rfl ?_
      refine TD.run1 (pure_slice (l := 0) (h := kn) Ty.sl34 rfl rfl rfl (by omega) (by omega)) rfl ?_
      refine TD.mute ?_
      first | refine TD.run1 (pure_load Ty.agg74 rfl (.succ (.succ (.succ (.succ (.succ (.succ (.succ (.zero _))))))))) rfl ?_ | refine TD.run1 (pure_load_own Ty.agg74 rfl (by repeat (first | exact List.Mem.head _ | apply List.Mem.tail)) (by repeat (first | exact DropR.zero _ | apply DropR.succ)) (.succ (.succ (.succ (.succ (.succ (.succ (.succ (.zero _))))))))) rfl ?_
      refine TD.run1 (pure_buildSlice (xs := [.tmp 79]) Ty.app34 (by decide) rfl rfl (.cons rfl (.agg _) rfl .nil)) rfl ?_
      refine TD.mute ?_
      refine TD.nil ?_
      refine ⟨⟨_, .left (.left (.right .nil))⟩, fun s hs hb => ?_⟩
      simp only [List.mem_cons, List.not_mem_nil, or_false] at hs
      rcases hs with rfl | hs
      rotate_left
      · rcases hs with rfl | rfl
        · exact absurd (hb 0 (by simp)) (by decide +kernel)
        · exact absurd (hb 5 (by simp)) (by decide +kernel)
      refine ⟨_, rfl, rfl, fun E eF he hx0 => ?_⟩
      subst he
      refine TL.buildRow (xs := []) (ys := []) Ty.app34 (by decide) rfl rfl .nil rfl (fun v73 hv73 => ?_)
      refine TL.nil ⟨rfl, _, rfl, ?_⟩
      refine ⟨⟨_, .right (.left (.left (.right .nil)))⟩, fun s hs hb => ?_⟩
      rw [show ([0, 5, 8] : List Nat).erase 0 = [5, 8] from rfl] at *
      simp only [List.mem_cons, List.not_mem_nil, or_false] at hs
      rcases hs with rfl | hs
      rotate_left
      · subst hs; exact absurd (hb 5 (by simp)) (by decide +kernel)
      refine ⟨_, rfl, rfl, fun E eF he hx0 => ?_⟩
      subst he
      refine TL.append Ty.app34 ((hx0 (.tmp 73) (by simp [Op.operands, Call.operands])).trans rfl) ((hx0 (.tmp 77) (by simp [Op.operands, Call.operands])).trans rfl) (by intro _; repeat (first | exact UpdR.here _ | apply UpdR.there)) (by simp only [List.length_append, List.length_nil, List.length_take, List.length_drop, List.length_cons, encCs_len, newC_len]; omega) (by simp only [List.length_append, List.length_nil, List.length_take, List.length_drop, List.length_cons, encCs_len, newC_len]; omega) rfl (fun v78 hv78 => ?_)
      refine TL.nil ⟨rfl, _, rfl, ?_⟩
      refine ⟨⟨_, .right (.left (.left (.right .nil)))⟩, fun s hs hb => ?_⟩
      rw [show ([5, 8] : List Nat).erase 5 = [8] from rfl] at *
      simp only [List.mem_cons, List.not_mem_nil, or_false] at hs
      subst hs
      refine ⟨_, rfl, rfl, fun E eF he hx0 => ?_⟩
      subst he
      refine TL.append Ty.app34 ((hx0 (.tmp 78) (by simp [Op.operands, Call.operands])).trans rfl) ((hx0 (.tmp 80) (by simp [Op.operands, Call.operands])).trans rfl) (by intro _; repeat (first | exact UpdR.here _ | apply UpdR.there)) (by simp only [List.length_append, List.length_nil, List.length_take, List.length_drop, List.length_cons, encCs_len, newC_len]; omega) (by simp only [List.length_append, List.length_nil, List.length_take, List.length_drop, List.length_cons, encCs_len, newC_len]; omega) rfl (fun v81 hv81 => ?_)
      refine TL.nil ⟨rfl, _, rfl, ?_⟩
      refine ⟨⟨_, .right (.left (.left (.right .nil)))⟩, fun e he => ?_⟩
      subst he
      simp only [List.drop_succ_cons, List.drop_zero]
      refine TL.run1 (pure_assign rfl) rfl ?_
      refine TL.nil' ?_
      refine TC.seq ?_
      refine TC.seq ?_
      refine TC.region ?_
      refine TL.run1 (pure_move rfl) rfl ?_
      refine TL.run1 (pure_add rfl rfl (mkI64 (by omega) (by omega))) rfl ?_
      refine TL.run1 (pure_assign rfl) rfl ?_
      refine TL.nil' ?_
      refine TC.block ?_
      refine TC.loopX (X := Nat × Value) (fun (j, v2) => [(0, .sl 6 (encRs rs)), (3, .v (.int .i64 (F + ((j : Nat) : Int)))), (10, .v (.int .i64 (rectN rs row cell).left)), (11, .v (.int .i64 (rectN rs row cell).right)), (12, .v (.int .i64 (rectN rs row cell).top)), (14, .v (.int .i64 (rectN rs row cell).bottom)), (15, .v v), (16, .v (.int .i64 i)), (17, .v (.pointer (some ⟨g17, 0, none⟩))), (18, .v (.int .i64 ((kn : Nat) : Int))), (20, .v v2), (21, .v (.int .i64 ((rectN rs row cell).left + 1 + ((j : Nat) : Int))))]) (fun (j, v2) => [Blk.row v2 74 7 (encCs ((rAt rs (i : Nat)).cells.take kn ++ [(clrC (cAt (rAt rs (i : Nat)).cells (kn : Nat)))] ++ newC F j)), Blk.box g17 36 (encR (rAt rs (i : Nat))), Blk.row v 36 6 (encRs ((splT rs (rectN rs row cell) fresh).take i))]) (fun (j, v2) => (j ≤ wQ (rectN rs row cell))) (fun (j, v2) => wQ (rectN rs row cell) - j) (0, v81) ⟨by (try dsimp only); rw [show F + ((0 : Nat) : Int) = F by omega, show (rectN rs row cell).left + 1 + ((0 : Nat) : Int) = (rectN rs row cell).left + 1 by omega]; repeat (first | exact Agree.nil | refine Agree.cons rfl ?_), by (try dsimp only); rw [← spl_first (rAt rs (i : Nat)) kn (clrC (cAt (rAt rs (i : Nat)).cells (kn : Nat))) F]; repeat (first | exact List.nil_sublist _ | exact List.Sublist.refl _ | apply List.Sublist.cons_cons | apply List.Sublist.cons)⟩ ?_ ?_
      · skip
        exact Nat.zero_le _
      rintro ⟨j, v2⟩
      intro j1
      show TC _ _ _ (Env.of [(0, .sl 6 (encRs rs)), (3, .v (.int .i64 (F + ((j : Nat) : Int)))), (10, .v (.int .i64 (rectN rs row cell).left)), (11, .v (.int .i64 (rectN rs row cell).right)), (12, .v (.int .i64 (rectN rs row cell).top)), (14, .v (.int .i64 (rectN rs row cell).bottom)), (15, .v v), (16, .v (.int .i64 i)), (17, .v (.pointer (some ⟨g17, 0, none⟩))), (18, .v (.int .i64 ((kn : Nat) : Int))), (20, .v v2), (21, .v (.int .i64 ((rectN rs row cell).left + 1 + ((j : Nat) : Int))))]) [Blk.row v2 74 7 (encCs ((rAt rs (i : Nat)).cells.take kn ++ [(clrC (cAt (rAt rs (i : Nat)).cells (kn : Nat)))] ++ newC F j)), Blk.box g17 36 (encR (rAt rs (i : Nat))), Blk.row v 36 6 (encRs ((splT rs (rectN rs row cell) fresh).take i))]
      refine TC.seq ?_
      refine TC.seq ?_
      have hncl := newC_len F j
      refine TC.region ?_
      refine TL.run1 (pure_move rfl) rfl ?_
      refine TL.run1 (pure_move rfl) rfl ?_
      refine TL.run1 (pure_lss rfl rfl) rfl ?_
      refine TL.nil' ?_
      first | refine TC.condD rfl (fun hc86 => ?_) (fun hc86 => ?_) | refine TC.condN rfl (fun hc86 => ?_) (fun hc86 => ?_) | refine TC.cond rfl (fun hc86 => ?_) (fun hc86 => ?_)
      · try dsimp only at hc86
        refine TC.skip' ?_
        refine TC.seq ?_
        refine TC.block ?_
        refine TC.seq ?_
        refine TC.region ?_
        refine TL.run1 (pure_move rfl) rfl ?_
        refine TL.run1 (pure_move rfl) rfl ?_
        refine TL.run1 (pure_build Ty.pl74 Ty.zero74 (.cons rfl rfl (.one rfl) rfl (.here (.nil _)) (.nil _))) rfl ?_
        refine TL.le 91 rfl (Le.agg (.cons (Le.refl _) (.cons (Le.nil 2) (.cons (Le.refl _) (.cons (Le.refl _) (.cons (Le.nil 2) (.cons (Le.nil 4) (.cons (Le.nil 11) .nil)))))))) ?_
        refine TL.run1 (pure_buildSlice (xs := [.tmp 91]) Ty.app34 (by decide) rfl rfl (.cons rfl (.agg _) rfl .nil)) rfl ?_
        refine TL.append Ty.app34 rfl rfl (by intro _; repeat (first | exact UpdR.here _ | apply UpdR.there)) (by simp only [List.length_append, List.length_nil, List.length_take, List.length_drop, List.length_cons, encCs_len, newC_len]; omega) (by simp only [List.length_append, List.length_nil, List.length_take, List.length_drop, List.length_cons, encCs_len, newC_len]; omega) rfl (fun v93 hv93 => ?_)
        refine TL.run1 (pure_assign rfl) rfl ?_
        refine TL.nil' ?_
        refine TC.region ?_
        refine TL.run1 (pure_move rfl) rfl ?_
        refine TL.run1 (pure_add rfl rfl (mkI64 (by omega) (by omega))) rfl ?_
        refine TL.run1 (pure_assign rfl) rfl ?_
        refine TL.nil ?_
        refine block_normal ?_
        refine then_normal ?_
        refine TC.region ?_
        refine TL.run1 (pure_move rfl) rfl ?_
        refine TL.run1 (pure_add rfl rfl (mkI64 (by omega) (by omega))) rfl ?_
        refine TL.run1 (pure_assign rfl) rfl ?_
        refine TL.nil ?_
        have hst := spl_snoc ((rAt rs (i : Nat)).cells.take kn ++ [(clrC (cAt (rAt rs (i : Nat)).cells (kn : Nat)))]) F j
        refine loop_next (j + 1, v93) ⟨by ((try dsimp only); rw [show (((j + 1 : Nat)) : Int) = (j : Int) + 1 by omega, ← Int.add_assoc, ← Int.add_assoc]; repeat (first | exact Agree.nil | refine Agree.cons rfl ?_)), by (try dsimp only); rw [← hst]; repeat (first | exact List.nil_sublist _ | exact List.Sublist.refl _ | apply List.Sublist.cons_cons | apply List.Sublist.cons)⟩ (show j + 1 ≤ _ by omega) (by (try dsimp only); omega)
      · try dsimp only at hc86
        have hje : j = wQ (rectN rs row cell) := by omega
        subst hje
        refine TC.exit ?_
        refine then_exit ?_
        refine loop_exit ?_
        refine block_here ?_
        refine then_normal ?_
        refine TC.region ?_
        refine TL.run1 (pure_move rfl) rfl ?_
        first | refine TL.run1 (pure_fieldAddr Ty.f36_1 rfl (.succ (.succ (.succ (.succ (.succ (.zero _)))))) (List.cons_ne_nil _ _)) rfl ?_ | refine TL.run1 (pure_fieldAddr_own Ty.f36_1 rfl) rfl ?_
        first | refine TL.run1 (pure_load1 Ty.one34 rfl) rfl ?_ | refine TL.run1 (pure_load1_own Ty.one34 rfl (by repeat (first | exact List.Mem.head _ | apply List.Mem.tail)) (by repeat (first | exact DropR.zero _ | apply DropR.succ))) rfl ?_
        refine TL.run1 (pure_move rfl) rfl ?_
        refine TL.run1 (pure_add rfl rfl (mkI64 (by omega) (by omega))) rfl ?_
        refine TL.run1 (pure_slice (l := kn + 1) (h := (encCs (rAt rs (i : Nat)).cells).length) Ty.sl34 rfl (by rw [show (((kn + 1 : Nat)) : Int) = (kn : Int) + 1 by omega]; rfl) rfl (by omega) (by omega)) rfl ?_
        refine TL.append Ty.app34 rfl rfl (by intro _; repeat (first | exact UpdR.here _ | apply UpdR.there)) (by simp only [List.length_append, List.length_nil, List.length_take, List.length_drop, List.length_cons, encCs_len, newC_len]; omega) (by simp only [List.length_append, List.length_nil, List.length_take, List.length_drop, List.length_cons, encCs_len, newC_len]; omega) rfl (fun v102 hv102 => ?_)
        rw [splR_cells (rAt rs (i : Nat)) kn F (wQ (rectN rs row cell))]
        refine TL.freeze 102 (show (0 : Nat) < 7 by decide) (.here _) rfl ?_
        first | refine TL.run1 (pure_fieldAddr Ty.f36_1 rfl (.succ (.succ (.succ (.succ (.succ (.zero _)))))) (List.cons_ne_nil _ _)) rfl ?_ | refine TL.run1 (pure_fieldAddr_own Ty.f36_1 rfl) rfl ?_
        refine TL.store rfl rfl (.one (by first | rfl | assumption)) Try.sizeOf34 rfl (by repeat (first | exact UpdR.here _ | apply UpdR.there)) (by repeat (first | exact PutR.nil _ | apply PutR.here | apply PutR.skip)) ?_
        refine TL.nil' ?_
        refine TC.region ?_
        refine TL.run1 (pure_move rfl) rfl ?_
        first | refine TL.run1 (pure_load Ty.agg36 rfl (.succ (.succ (.succ (.succ (.succ (.succ (.zero _)))))))) rfl ?_ | refine TL.run1 (pure_load_own Ty.agg36 rfl (by repeat (first | exact List.Mem.head _ | apply List.Mem.tail)) (by repeat (first | exact DropR.zero _ | apply DropR.succ)) (.succ (.succ (.succ (.succ (.succ (.succ (.zero _)))))))) rfl ?_
        refine TL.run1 (pure_buildSlice (xs := [.tmp 105]) Ty.app22 (by decide) rfl rfl (.cons rfl (.agg _) rfl .nil)) rfl ?_
        refine TL.append Ty.app22 rfl rfl (by intro _; repeat (first | exact UpdR.here _ | apply UpdR.there)) (by simp only [List.length_append, List.length_cons, List.length_nil]; omega) (by simp only [List.length_append, List.length_cons, List.length_nil]; omega) rfl (fun v107 hv107 => ?_)
        refine TL.run1 (pure_assign rfl) rfl ?_
        refine TL.nil ?_
        refine block_normal ?_
        refine then_normal ?_
        refine TC.region ?_
        refine TL.run1 (pure_move rfl) rfl ?_
        refine TL.run1 (pure_add rfl rfl (mkI64 (by omega) (by omega))) rfl ?_
        refine TL.run1 (pure_assign rfl) rfl ?_
        refine TL.nil ?_
        have hst := splT_step rs (rectN rs row cell) fresh i hil
        rw [if_pos hc56, hspl] at hst
        refine loop_next (i + 1, F + ((wQ (rectN rs row cell) : Nat) : Int), v107) ⟨by ((try dsimp only); rw [show (((i + 1 : Nat)) : Int) = (i : Int) + 1 by omega]; repeat (first | exact Agree.nil | refine Agree.cons rfl ?_)), by (try dsimp only); rw [hst]; repeat (first | exact List.nil_sublist _ | exact List.Sublist.refl _ | apply List.Sublist.cons_cons | apply List.Sublist.cons)⟩ ⟨by (try dsimp only); omega, by (rw [fR_in (rectN rs row cell) fresh i hc56.1 hc56.2, ← hF])⟩ (by (try dsimp only); omega)
    · try dsimp only at hc56
      refine TC.skip' ?_
      refine TC.region ?_
      refine TL.run1 (pure_move rfl) rfl ?_
      first | refine TL.run1 (pure_load Ty.agg36 rfl (.succ (.succ (.succ (.succ (.succ (.succ (.zero _)))))))) rfl ?_ | refine TL.run1 (pure_load_own Ty.agg36 rfl (by repeat (first | exact List.Mem.head _ | apply List.Mem.tail)) (by repeat (first | exact DropR.zero _ | apply DropR.succ)) (.succ (.succ (.succ (.succ (.succ (.succ (.zero _)))))))) rfl ?_
      refine TL.run1 (pure_buildSlice (xs := [.tmp 105]) Ty.app22 (by decide) rfl rfl (.cons rfl (.agg _) rfl .nil)) rfl ?_
      refine TL.append Ty.app22 rfl rfl (by intro _; repeat (first | exact UpdR.here _ | apply UpdR.there)) (by simp only [List.length_append, List.length_cons, List.length_nil]; omega) (by simp only [List.length_append, List.length_cons, List.length_nil]; omega) rfl (fun v107 hv107 => ?_)
      refine TL.run1 (pure_assign rfl) rfl ?_
      refine TL.nil ?_
      refine block_normal ?_
      refine then_normal ?_
      refine TC.region ?_
      refine TL.run1 (pure_move rfl) rfl ?_
      refine TL.run1 (pure_add rfl rfl (mkI64 (by omega) (by omega))) rfl ?_
      refine TL.run1 (pure_assign rfl) rfl ?_
      refine TL.nil ?_
      have hst := splT_step rs (rectN rs row cell) fresh i hil
      rw [if_neg hc56] at hst
      refine loop_next (i + 1, F, v107) ⟨by ((try dsimp only); rw [show (((i + 1 : Nat)) : Int) = (i : Int) + 1 by omega]; repeat (first | exact Agree.nil | refine Agree.cons rfl ?_)), by (try dsimp only); rw [hst]; repeat (first | exact List.nil_sublist _ | exact List.Sublist.refl _ | apply List.Sublist.cons_cons | apply List.Sublist.cons)⟩ ⟨by (try dsimp only); omega, by (rw [fR_out (rectN rs row cell) fresh i hc56 (by omega), ← hF])⟩ (by (try dsimp only); omega)
  · try dsimp only at hc42
    refine TC.exit ?_
    refine then_exit ?_
    refine loop_exit ?_
    refine block_here ?_
    refine then_normal ?_
    refine TC.seq ?_
    refine TC.region ?_
    refine TL.run1 (pure_move rfl) rfl ?_
    refine TL.run1 (pure_move rfl) rfl ?_
    refine TL.run1 (pure_assign rfl) rfl ?_
    refine TL.run1 (pure_assign rfl) rfl ?_
    refine TL.nil' ?_
    refine TC.ret ?_
    have hie : i = rs.length := by omega
    subst hie
    have hend : (splT rs (rectN rs row cell) fresh).take rs.length = splT rs (rectN rs row cell) fresh := List.take_of_length_le (by rw [splT_len]; exact Nat.le_refl _)
    rw [hend, hF, fR_end (rectN rs row cell) fresh rs.length (by omega) (by omega) (by omega)]
    exact retF2 (.inl rfl) rfl rfl (.tupL (.cons (.rowS (by repeat (first | exact List.Mem.head _ | apply List.Mem.tail)) (by decide) (encRs_each _)) (.cons (.same _) .nil)))
end Go.Ob
