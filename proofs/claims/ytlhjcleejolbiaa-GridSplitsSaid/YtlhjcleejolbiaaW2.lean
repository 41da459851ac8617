import Derived.Test.YtlhjcleejolbiaaW
set_option linter.unusedVariables false
set_option linter.unusedSimpArgs false
namespace Go.Ob
open Go.Proofs
set_option maxRecDepth 100000 in
theorem RPlace_spec (rs : List RowD) (hr : TabOk rs) (i k : Int) (hv : Val rs i k) : Fun Try.prog 38 [.sl 6 (encRs rs), .v (.int .i64 i), .v (.int .i64 k)] (.tup [.v (.int .i64 (rectN rs i k).row), .v (.int .i64 (rectN rs i k).cell), .v (.int .i64 (rectN rs i k).bottom)]) := by
  refine Fun.enter (n := 63) (rs := [.tmp 6, .tmp 7, .tmp 8]) Try.func38 rfl Try.ntmps38 Try.results38 rfl (fun w F => ?_)
  have hk := encRs_len rs
  have hrl := hr.2
  have hv0 := hv.1
  have hv1 := hv.2.1
  have hrow := encRs_get rs i (by omega) (by omega)
  have hro := hr.1 _ (rAt_mem rs i (by omega) (by omega))
  show TC _ _ _ _ _
  refine TC.seq ?_
  refine TC.region ?_
  refine TL.run1 (pure_assign rfl) rfl ?_
  refine TL.run1 (pure_assign rfl) rfl ?_
  refine TL.run1 (pure_assign rfl) rfl ?_
  refine TL.nil' ?_
  refine TC.seq ?_
  refine TC.region ?_
  refine TL.run1 (pure_move rfl) rfl ?_
  refine TL.run1 (pure_move rfl) rfl ?_
  refine TL.run1 (pure_indexAddr Ty.sl22 rfl rfl (by omega) (by assumption) (List.cons_ne_nil _ _)) rfl ?_
  first | refine TL.run1 (pure_load Ty.agg36 rfl (.succ (.succ (.succ (.succ (.succ (.succ (.zero _)))))))) rfl ?_ | refine TL.run1 (pure_load_own Ty.agg36 rfl (by repeat (first | exact List.Mem.head _ | apply List.Mem.tail)) (by repeat (first | exact DropR.zero _ | apply DropR.succ)) (.succ (.succ (.succ (.succ (.succ (.succ (.zero _)))))))) rfl ?_
  refine TL.run1 (pure_move rfl) rfl ?_
  refine TL.run1 (pure_call (span_spec _ hro _ hv.2.2.1 hv.2.2.2.1) (.cons rfl (.cons rfl .nil)) Try.call19) rfl ?_
  refine TL.run1 (pure_move rfl) rfl ?_
  refine TL.run1 (pure_extract rfl rfl) rfl ?_
  refine TL.run1 (pure_extract rfl rfl) rfl ?_
  refine TL.run1 (pure_assign rfl) rfl ?_
  refine TL.run1 (pure_assign rfl) rfl ?_
  refine TL.nil' ?_
  refine TC.seq ?_
  refine TC.region ?_
  refine TL.run1 (pure_move rfl) rfl ?_
  refine TL.run1 (pure_move rfl) rfl ?_
  refine TL.run1 (pure_move rfl) rfl ?_
  refine TL.run1 (pure_add rfl rfl (mkI64 (by omega) (by omega))) rfl ?_
  refine TL.run1 (pure_assign rfl) rfl ?_
  refine TL.run1 (pure_assign rfl) rfl ?_
  refine TL.run1 (pure_assign rfl) rfl ?_
  refine TL.nil' ?_
  refine TC.seq ?_
  refine TC.block ?_
  refine TC.loopX (X := Int × Int) (fun (tp, fs) => [(0, .sl 6 (encRs rs)), (6, .v (.int .i64 tp)), (7, .v (.int .i64 fs)), (8, .v (.int .i64 (i + 1))), (9, .v (.int .i64 (spN rs i k).1)), (10, .v (.int .i64 (spN rs i k).2))]) (fun (tp, fs) => []) (fun (tp, fs) => (0 ≤ tp) ∧ (tp ≤ i) ∧ (Val rs tp fs) ∧ (spN rs tp fs = (spN rs i k)) ∧ (topN rs (spN rs i k) tp.toNat = topN rs (spN rs i k) i.toNat)) (fun (tp, fs) => tp.toNat) (i, k) ⟨by skip; repeat (first | exact Agree.nil | refine Agree.cons rfl ?_), by skip; repeat (first | exact List.nil_sublist _ | exact List.Sublist.refl _ | apply List.Sublist.cons_cons | apply List.Sublist.cons)⟩ ?_ ?_
  · skip
    exact ⟨hv.1, Int.le_refl _, hv, rfl, rfl⟩
  rintro ⟨tp, fs⟩
  rintro ⟨h0, h1, h2, h3, h4⟩
  show TC _ _ _ (Env.of [(0, .sl 6 (encRs rs)), (6, .v (.int .i64 tp)), (7, .v (.int .i64 fs)), (8, .v (.int .i64 (i + 1))), (9, .v (.int .i64 (spN rs i k).1)), (10, .v (.int .i64 (spN rs i k).2))]) []
  have hex1 : existsN rs tp fs := (place_val.1 h2).1
  refine TC.seq ?_
  refine TC.seq ?_
  refine TC.region ?_
  refine TL.run1 (pure_move rfl) rfl ?_
  refine TL.run1 (pure_move rfl) rfl ?_
  refine TL.run1 (pure_move rfl) rfl ?_
  first | refine TL.run1 (pure_call (Continues_spec _ hr _ _ hex1) (.cons rfl (.cons rfl (.cons rfl .nil))) Try.call54) rfl ?_ | refine TL.run1 (pure_call (Continues_spec _ hr _ _ hex2) (.cons rfl (.cons rfl (.cons rfl .nil))) Try.call54) rfl ?_
  refine TL.nil' ?_
  first | refine TC.condD rfl (fun hc28 => ?_) (fun hc28 => ?_) | refine TC.condN rfl (fun hc28 => ?_) (fun hc28 => ?_) | refine TC.cond rfl (fun hc28 => ?_) (fun hc28 => ?_)
  · try dsimp only at hc28
    have hcb : contB rs tp fs = true := decide_eq_true hc28
    refine TC.skip' ?_
    refine TC.block ?_
    refine TC.seq ?_
    refine TC.region ?_
    refine TL.run1 (pure_move rfl) rfl ?_
    refine TL.run1 (pure_sub rfl rfl (mkI64 (by omega) (by omega))) rfl ?_
    refine TL.run1 (pure_assign rfl) rfl ?_
    refine TL.nil' ?_
    have hge : 1 ≤ tp := by (rcases Int.lt_or_eq_of_le h0 with h | h; omega; (rw [← h, contB_zero] at hcb; cases hcb))
    have htl := h2.2.1
    have hrow1 := encRs_get rs (tp - 1) (by omega) (by omega)
    have hro1 := hr.1 _ (rAt_mem rs (tp - 1) (by omega) (by omega))
    refine TC.region ?_
    refine TL.run1 (pure_move rfl) rfl ?_
    refine TL.run1 (pure_move rfl) rfl ?_
    refine TL.run1 (pure_indexAddr Ty.sl22 rfl rfl (by omega) (by assumption) (List.cons_ne_nil _ _)) rfl ?_
    first | refine TL.run1 (pure_load Ty.agg36 rfl (.succ (.succ (.succ (.succ (.succ (.succ (.zero _)))))))) rfl ?_ | refine TL.run1 (pure_load_own Ty.agg36 rfl (by repeat (first | exact List.Mem.head _ | apply List.Mem.tail)) (by repeat (first | exact DropR.zero _ | apply DropR.succ)) (.succ (.succ (.succ (.succ (.succ (.succ (.zero _)))))))) rfl ?_
    refine TL.run1 (pure_move rfl) rfl ?_
    refine TL.run1 (pure_move rfl) rfl ?_
    first | refine TL.run1 (pure_call (Same_spec _ hro1 _ _) (.cons rfl (.cons rfl (.cons rfl .nil))) Try.call48) rfl ?_ | refine TL.run1 (pure_call (Same_spec _ hro2 _ _) (.cons rfl (.cons rfl (.cons rfl .nil))) Try.call48) rfl ?_
    refine TL.run1 (pure_assign rfl) rfl ?_
    refine TL.nil ?_
    refine block_normal ?_
    have hcs : csB rs (spN rs i k) tp = true := by (have := csB_val h2; rw [h3] at this; rw [this]; exact hcb)
    have hge : 1 ≤ tp := by (rcases Int.lt_or_eq_of_le h0 with h | h; omega; (rw [← h, contB_zero] at hcb; cases hcb))
    have hcont : CS rs (spN rs i k) tp := (csB_iff h0 h2.2.1).1 hcs
    obtain ⟨q1, q2, a1, a2, a3, a4, a5, a6⟩ := hcont
    have hsm := sameN_val a4
    rw [a5] at hsm
    refine loop_next (tp - 1, sameN (rAt rs (tp - 1)) (spN rs i k).1 (spN rs i k).2) ⟨by repeat (first | exact Agree.nil | refine Agree.cons rfl ?_), by repeat (first | exact List.nil_sublist _ | exact List.Sublist.refl _ | apply List.Sublist.cons_cons | apply List.Sublist.cons)⟩ ⟨by omega, by omega, by rw [hsm]; exact a4, by rw [hsm]; exact a5, by rw [← topN_step hge hcs]; exact h4⟩ (by dsimp only; omega)
  · try dsimp only at hc28
    have hcb : contB rs tp fs = false := decide_eq_false hc28
    refine TC.exit ?_
    refine then_exit ?_
    refine loop_exit ?_
    refine block_here ?_
    refine then_normal ?_
    refine TC.seq ?_
    refine TC.block ?_
    refine TC.loopX (X := Int) (fun bt => [(0, .sl 6 (encRs rs)), (6, .v (.int .i64 tp)), (7, .v (.int .i64 fs)), (8, .v (.int .i64 bt)), (9, .v (.int .i64 (spN rs i k).1)), (10, .v (.int .i64 (spN rs i k).2))]) (fun bt => []) (fun bt => (i + 1 ≤ bt) ∧ (bt ≤ rs.length) ∧ (botN rs (spN rs i k) bt.toNat (rs.length - bt.toNat) = botN rs (spN rs i k) (i.toNat + 1) (rs.length - (i.toNat + 1)))) (fun bt => (rs.length - bt).toNat) (i + 1) ⟨by skip; repeat (first | exact Agree.nil | refine Agree.cons rfl ?_), by skip; repeat (first | exact List.nil_sublist _ | exact List.Sublist.refl _ | apply List.Sublist.cons_cons | apply List.Sublist.cons)⟩ ?_ ?_
    · skip
      exact ⟨Int.le_refl _, by have := hv.2.1; omega, by rw [show (i + 1).toNat = i.toNat + 1 by have := hv.1; omega]⟩
    intro bt
    rintro ⟨k0, k1, k2⟩
    show TC _ _ _ (Env.of [(0, .sl 6 (encRs rs)), (6, .v (.int .i64 tp)), (7, .v (.int .i64 fs)), (8, .v (.int .i64 bt)), (9, .v (.int .i64 (spN rs i k).1)), (10, .v (.int .i64 (spN rs i k).2))]) []
    refine TC.seq ?_
    refine TC.seq ?_
    refine TC.region ?_
    refine TL.run1 (pure_move rfl) rfl ?_
    refine TL.run1 (pure_move rfl) rfl ?_
    first | refine TL.run1 (pure_len Ty.sl22 rfl) rfl ?_ | refine TL.run1 (pure_len_row Ty.sl22 rfl (by repeat (first | exact List.Mem.head _ | apply List.Mem.tail))) rfl ?_ | refine TL.run1 (pure_len_nil Ty.sl22 rfl) rfl ?_
    refine TL.run1 (pure_lss rfl rfl) rfl ?_
    refine TL.nil' ?_
    first | refine TC.condD rfl (fun hc41 => ?_) (fun hc41 => ?_) | refine TC.condN rfl (fun hc41 => ?_) (fun hc41 => ?_) | refine TC.cond rfl (fun hc41 => ?_) (fun hc41 => ?_)
    · try dsimp only at hc41
      refine TC.skip' ?_
      refine TC.block ?_
      refine TC.seq ?_
      have hrow2 := encRs_get rs bt (by omega) (by omega)
      have hro2 := hr.1 _ (rAt_mem rs bt (by omega) (by omega))
      refine TC.region ?_
      refine TL.run1 (pure_move rfl) rfl ?_
      refine TL.run1 (pure_move rfl) rfl ?_
      refine TL.run1 (pure_indexAddr Ty.sl22 rfl rfl (by omega) (by assumption) (List.cons_ne_nil _ _)) rfl ?_
      first | refine TL.run1 (pure_load Ty.agg36 rfl (.succ (.succ (.succ (.succ (.succ (.succ (.zero _)))))))) rfl ?_ | refine TL.run1 (pure_load_own Ty.agg36 rfl (by repeat (first | exact List.Mem.head _ | apply List.Mem.tail)) (by repeat (first | exact DropR.zero _ | apply DropR.succ)) (.succ (.succ (.succ (.succ (.succ (.succ (.zero _)))))))) rfl ?_
      refine TL.run1 (pure_move rfl) rfl ?_
      refine TL.run1 (pure_move rfl) rfl ?_
      first | refine TL.run1 (pure_call (Same_spec _ hro1 _ _) (.cons rfl (.cons rfl (.cons rfl .nil))) Try.call48) rfl ?_ | refine TL.run1 (pure_call (Same_spec _ hro2 _ _) (.cons rfl (.cons rfl (.cons rfl .nil))) Try.call48) rfl ?_
      refine TL.run1 (pure_assign rfl) rfl ?_
      refine TL.nil' ?_
      refine TC.seq ?_
      refine TC.regionCut [49, 50, 51, 52, 53, 54, 55, 56, 57] 57 (csB rs (spN rs i k) bt = false) ?_ ?_
      · skip
        refine TL.run1 (pure_move rfl) rfl ?_
        refine TL.run1 (pure_lss rfl rfl) rfl ?_
        refine TL.run1 (pure_move rfl) rfl ?_
        first | refine TL.splitP 51 rfl (fun hg51 => ?_) (fun hg51 => ?_) | refine TL.split 51 rfl (fun hg51 => ?_) (fun hg51 => ?_)
        · try dsimp only at hg51
          refine TL.passG rfl rfl rfl rfl ?_
          refine TL.passG rfl rfl rfl rfl ?_
          refine TL.passG rfl rfl rfl rfl ?_
          refine TL.passG rfl rfl rfl rfl ?_
          refine TL.passG rfl rfl rfl rfl ?_
          refine TL.run1 (pure_pick_true rfl rfl) rfl ?_
          refine TL.cutEnd (by repeat (first | exact Same.refl _ _ | refine Same.put rfl ?_)) rfl ?_
          first | (simp only [csB]; simp_all; done) | grind [csB, spN]
        · try dsimp only at hg51
          have hsl := sameN_lt (show 0 ≤ sameN (rAt rs bt) (spN rs i k).1 (spN rs i k).2 by omega)
          have hex2 : existsN rs bt (sameN (rAt rs bt) (spN rs i k).1 (spN rs i k).2) := ⟨by omega, by omega, by omega, by omega⟩
          refine TL.runG rfl rfl (pure_move rfl) rfl ?_
          refine TL.runG rfl rfl (pure_move rfl) rfl ?_
          refine TL.runG rfl rfl (pure_move rfl) rfl ?_
          first | refine TL.runG rfl rfl (pure_call (Continues_spec _ hr _ _ hex1) (.cons rfl (.cons rfl (.cons rfl .nil))) Try.call54) rfl ?_ | refine TL.runG rfl rfl (pure_call (Continues_spec _ hr _ _ hex2) (.cons rfl (.cons rfl (.cons rfl .nil))) Try.call54) rfl ?_
          refine TL.runG rfl rfl (pure_not rfl) rfl ?_
          refine TL.run1 (pure_pick_false rfl rfl) rfl ?_
          refine TL.cutEnd (by repeat (first | exact Same.refl _ _ | refine Same.put rfl ?_)) rfl ?_
          first | (simp only [csB]; simp_all; done) | grind [csB, spN]
      first | refine TC.condD rfl (fun hc57 => ?_) (fun hc57 => ?_) | refine TC.condN rfl (fun hc57 => ?_) (fun hc57 => ?_) | refine TC.cond rfl (fun hc57 => ?_) (fun hc57 => ?_)
      · try dsimp only at hc57
        refine TC.exit ?_
        refine then_exit ?_
        refine block_past rfl ?_
        refine loop_exit ?_
        refine block_here ?_
        refine then_normal ?_
        refine TC.seq ?_
        have htop : tp = topN rs (spN rs i k) i.toNat := by
          have hcs : csB rs (spN rs i k) tp = false := by (have := csB_val h2; rw [h3] at this; rw [this]; exact hcb)
          have := topN_stop h0 hcs
          omega
        have hfs : fs = sameN (rAt rs tp) (spN rs i k).1 (spN rs i k).2 := by rw [← h3]; exact (sameN_val h2).symm
        have hbot : bt = botN rs (spN rs i k) (i.toNat + 1) (rs.length - (i.toNat + 1)) := by (have h := botN_stop (rs := rs) (s := (spN rs i k)) (b := bt) (by omega) (.inl hc57); omega)
        refine TC.region ?_
        refine TL.run1 (pure_move rfl) rfl ?_
        refine TL.run1 (pure_move rfl) rfl ?_
        refine TL.run1 (pure_move rfl) rfl ?_
        refine TL.run1 (pure_assign rfl) rfl ?_
        refine TL.run1 (pure_assign rfl) rfl ?_
        refine TL.run1 (pure_assign rfl) rfl ?_
        refine TL.nil' ?_
        refine TC.ret ?_
        exact ret3 (.inl rfl) rfl rfl rfl (by rw [hfs, htop, hbot]; rfl)
      · try dsimp only at hc57
        refine TC.skip' ?_
        refine TC.region ?_
        refine TL.run1 (pure_move rfl) rfl ?_
        refine TL.run1 (pure_add rfl rfl (mkI64 (by omega) (by omega))) rfl ?_
        refine TL.run1 (pure_assign rfl) rfl ?_
        refine TL.nil ?_
        refine block_normal ?_
        have hcs : csB rs (spN rs i k) bt = true := by simpa using hc57
        refine loop_next (bt + 1) ⟨by repeat (first | exact Agree.nil | refine Agree.cons rfl ?_), by repeat (first | exact List.nil_sublist _ | exact List.Sublist.refl _ | apply List.Sublist.cons_cons | apply List.Sublist.cons)⟩ ⟨by omega, by omega, by rw [← botN_step (by have := hv.1; omega) (by omega) hcs]; exact k2⟩ (by omega)
    · try dsimp only at hc41
      refine TC.exit ?_
      refine then_exit ?_
      refine loop_exit ?_
      refine block_here ?_
      refine then_normal ?_
      refine TC.seq ?_
      have htop : tp = topN rs (spN rs i k) i.toNat := by
        have hcs : csB rs (spN rs i k) tp = false := by (have := csB_val h2; rw [h3] at this; rw [this]; exact hcb)
        have := topN_stop h0 hcs
        omega
      have hfs : fs = sameN (rAt rs tp) (spN rs i k).1 (spN rs i k).2 := by rw [← h3]; exact (sameN_val h2).symm
      have hbot : bt = botN rs (spN rs i k) (i.toNat + 1) (rs.length - (i.toNat + 1)) := by (have h := botN_stop (rs := rs) (s := (spN rs i k)) (b := bt) (by omega) (.inr (by omega)); omega)
      refine TC.region ?_
      refine TL.run1 (pure_move rfl) rfl ?_
      refine TL.run1 (pure_move rfl) rfl ?_
      refine TL.run1 (pure_move rfl) rfl ?_
      refine TL.run1 (pure_assign rfl) rfl ?_
      refine TL.run1 (pure_assign rfl) rfl ?_
      refine TL.run1 (pure_assign rfl) rfl ?_
      refine TL.nil' ?_
      refine TC.ret ?_
      exact ret3 (.inl rfl) rfl rfl rfl (by rw [hfs, htop, hbot]; rfl)
set_option maxRecDepth 100000 in
theorem place_spec (rs : List RowD) (hr : TabOk rs) (i k : Int) : Fun Try.prog 15 [.sl 6 (encRs rs), .v (.int .i64 i), .v (.int .i64 k)] (.tup [.agg (encQ (placeR rs i k)), .v (.int .i64 (placeE rs i k))]) := by
  refine Fun.enter (n := 48) (rs := [.cell 6 40, .tmp 7]) Try.func15 rfl Try.ntmps15 Try.results15 rfl (fun w F => ?_)
  have hk := encRs_len rs
  refine TC.seq ?_
  refine TC.region ?_
  refine TL.alloc Ty.zero40 rfl (fun g6 => ?_)
  refine TL.run1 (pure_assign rfl) rfl ?_
  refine TL.nil' ?_
  refine TC.seq ?_
  refine TC.seq ?_
  refine TC.region ?_
  refine TL.run1 (pure_move rfl) rfl ?_
  refine TL.run1 (pure_move rfl) rfl ?_
  refine TL.run1 (pure_move rfl) rfl ?_
  refine TL.run1 (pure_call (exists_spec _ _ _) (.cons rfl (.cons rfl (.cons rfl .nil))) Try.call25) rfl ?_
  refine TL.run1 (pure_not rfl) rfl ?_
  refine TL.nil' ?_
  first | refine TC.condD rfl (fun hc17 => ?_) (fun hc17 => ?_) | refine TC.condN rfl (fun hc17 => ?_) (fun hc17 => ?_) | refine TC.cond rfl (fun hc17 => ?_) (fun hc17 => ?_)
  · try dsimp only at hc17
    have hne : ¬ existsN rs i k := by (intro h; first | exact absurd h hc17 | (unfold existsN at h; simp_all))
    have hpr : placeR rs i k = q0 := by unfold placeR; rw [if_neg (fun h => hne h.1)]
    have hpe : placeE rs i k = 2 := by unfold placeE; rw [if_pos hne]
    refine TC.seq ?_
    refine TC.region ?_
    refine TL.run1 (pure_build Ty.pl40 Ty.zero40 (.nil _)) rfl ?_
    refine TL.store rfl rfl (.agg _) Try.sizeOf40 rfl (by repeat (first | exact UpdR.here _ | apply UpdR.there)) (by repeat (first | exact PutR.nil _ | apply PutR.here | apply PutR.skip)) ?_
    refine TL.run1 (pure_assign rfl) rfl ?_
    refine TL.nil' ?_
    refine TC.ret ?_
    refine then_ret ?_
    exact ret_cell_tmp (.inl rfl) Ty.agg40 rfl (by repeat (first | exact List.Mem.head _ | apply List.Mem.tail)) rfl rfl (by rw [hpr, hpe]; rfl)
  · try dsimp only at hc17
    have hex : existsN rs i k := by (first | exact hc17 | (unfold existsN; simp_all))
    have hex0 := hex.1
    have hex1 := hex.2.1
    have hrow := encRs_get rs i (by omega) (by omega)
    have hro := hr.1 _ (rAt_mem rs i (by omega) (by omega))
    refine TC.skip' ?_
    refine TC.seq ?_
    refine TC.region ?_
    refine TL.run1 (pure_move rfl) rfl ?_
    refine TL.run1 (pure_move rfl) rfl ?_
    refine TL.run1 (pure_indexAddr Ty.sl22 rfl rfl (by omega) (by assumption) (List.cons_ne_nil _ _)) rfl ?_
    first | refine TL.run1 (pure_load Ty.agg36 rfl (.succ (.succ (.succ (.succ (.succ (.succ (.zero _)))))))) rfl ?_ | refine TL.run1 (pure_load_own Ty.agg36 rfl (by repeat (first | exact List.Mem.head _ | apply List.Mem.tail)) (by repeat (first | exact DropR.zero _ | apply DropR.succ)) (.succ (.succ (.succ (.succ (.succ (.succ (.zero _)))))))) rfl ?_
    refine TL.run1 (pure_move rfl) rfl ?_
    refine TL.run1 (pure_call (span_spec _ hro _ hex.2.2.1 hex.2.2.2) (.cons rfl (.cons rfl .nil)) Try.call19) rfl ?_
    refine TL.run1 (pure_move rfl) rfl ?_
    refine TL.run1 (pure_extract rfl rfl) rfl ?_
    refine TL.run1 (pure_extract rfl rfl) rfl ?_
    refine TL.run1 (pure_assign rfl) rfl ?_
    refine TL.run1 (pure_assign rfl) rfl ?_
    refine TL.nil' ?_
    refine TC.seq ?_
    refine TC.seq ?_
    refine TC.region ?_
    refine TL.run1 (pure_move rfl) rfl ?_
    refine TL.run1 (pure_move rfl) rfl ?_
    refine TL.run1 (pure_eql rfl rfl) rfl ?_
    refine TL.nil' ?_
    first | refine TC.condD rfl (fun hc30 => ?_) (fun hc30 => ?_) | refine TC.condN rfl (fun hc30 => ?_) (fun hc30 => ?_) | refine TC.cond rfl (fun hc30 => ?_) (fun hc30 => ?_)
    · try dsimp only at hc30
      have heq : (spN rs i k).1 = (spN rs i k).2 := hc30
      have hpr : placeR rs i k = q0 := by unfold placeR; rw [if_neg (fun h => h.2 heq)]
      have hpe : placeE rs i k = 20 := by unfold placeE; rw [if_neg (by simpa using hex), if_pos heq]
      refine TC.seq ?_
      refine TC.region ?_
      refine TL.run1 (pure_build Ty.pl40 Ty.zero40 (.nil _)) rfl ?_
      refine TL.store rfl rfl (.agg _) Try.sizeOf40 rfl (by repeat (first | exact UpdR.here _ | apply UpdR.there)) (by repeat (first | exact PutR.nil _ | apply PutR.here | apply PutR.skip)) ?_
      refine TL.run1 (pure_assign rfl) rfl ?_
      refine TL.nil' ?_
      refine TC.ret ?_
      refine then_ret ?_
      exact ret_cell_tmp (.inl rfl) Ty.agg40 rfl (by repeat (first | exact List.Mem.head _ | apply List.Mem.tail)) rfl rfl (by rw [hpr, hpe]; rfl)
    · try dsimp only at hc30
      have hnq : (spN rs i k).1 ≠ (spN rs i k).2 := hc30
      have hv : Val rs i k := place_val.2 ⟨hex, hnq⟩
      have hpr : placeR rs i k = rectN rs i k := by unfold placeR; rw [if_pos ⟨hex, hnq⟩]
      have hpe : placeE rs i k = 0 := by unfold placeE; rw [if_neg (by simpa using hex), if_neg hnq]
      refine TC.skip' ?_
      refine TC.seq ?_
      refine TC.region ?_
      refine TL.run1 (pure_move rfl) rfl ?_
      refine TL.run1 (pure_move rfl) rfl ?_
      refine TL.run1 (pure_move rfl) rfl ?_
      refine TL.run1 (pure_call (RPlace_spec _ hr _ _ hv) (.cons rfl (.cons rfl (.cons rfl .nil))) Try.call38) rfl ?_
      refine TL.run1 (pure_move rfl) rfl ?_
      refine TL.run1 (pure_extract rfl rfl) rfl ?_
      refine TL.run1 (pure_extract rfl rfl) rfl ?_
      refine TL.run1 (pure_extract rfl rfl) rfl ?_
      refine TL.run1 (pure_assign rfl) rfl ?_
      refine TL.run1 (pure_assign rfl) rfl ?_
      refine TL.run1 (pure_assign rfl) rfl ?_
      refine TL.nil' ?_
      refine TC.seq ?_
      refine TC.region ?_
      refine TL.run1 (pure_move rfl) rfl ?_
      refine TL.run1 (pure_move rfl) rfl ?_
      refine TL.run1 (pure_move rfl) rfl ?_
      refine TL.run1 (pure_move rfl) rfl ?_
      refine TL.run1 (pure_move rfl) rfl ?_
      refine TL.run1 (pure_move rfl) rfl ?_
      refine TL.run1 (pure_build Ty.pl38 Ty.zero38 (.cons rfl rfl (.one rfl) rfl (.here (.nil _)) (.cons rfl rfl (.one rfl) rfl (.skip (.here (.nil _))) (.cons rfl rfl (.one rfl) rfl (.skip (.skip (.here (.nil _)))) (.cons rfl rfl (.one rfl) rfl (.skip (.skip (.skip (.here (.nil _))))) (.nil _)))))) rfl ?_
      refine TL.run1 (pure_build Ty.pl40 Ty.zero40 (.cons rfl rfl (.one rfl) rfl (.here (.nil _)) (.cons rfl rfl (.one rfl) rfl (.skip (.here (.nil _))) (.cons rfl rfl (.agg _) rfl (.skip (.skip (.here (.here (.here (.here (.nil _))))))) (.nil _))))) rfl ?_
      refine TL.store rfl rfl (.agg _) Try.sizeOf40 rfl (by repeat (first | exact UpdR.here _ | apply UpdR.there)) (by repeat (first | exact PutR.nil _ | apply PutR.here | apply PutR.skip)) ?_
      refine TL.run1 (pure_assign rfl) rfl ?_
      refine TL.nil' ?_
      refine TC.ret ?_
      exact ret_cell_tmp (.inl rfl) Ty.agg40 rfl (by repeat (first | exact List.Mem.head _ | apply List.Mem.tail)) rfl rfl (by rw [hpr, hpe]; rfl)
set_option maxRecDepth 100000 in
theorem GPlace_spec (rs : List RowD) (hr : TabOk rs) (hl : rs.length ≤ 2000) (i k : Int) : Fun Try.prog 26 [.sl 6 (encRs rs), .v (.int .i64 i), .v (.int .i64 k)] (.tup [.agg (encQ (placeR rs i k)), .v (.int .i64 (placeE rs i k))]) := by
  refine Fun.enter (n := 53) (rs := [.cell 6 40, .tmp 7]) Try.func26 rfl Try.ntmps26 Try.results26 rfl (fun w F => ?_)
  have hk := encRs_len rs
  refine TC.seq ?_
  refine TC.region ?_
  refine TL.alloc Ty.zero40 rfl (fun g6 => ?_)
  refine TL.run1 (pure_assign rfl) rfl ?_
  refine TL.nil' ?_
  refine TC.seq ?_
  refine TC.regionCut [11, 12, 13, 14, 15, 16, 17, 18, 19, 20, 21, 22, 23, 24, 25, 26, 27, 28, 29, 30, 31, 32] 32 (¬ existsN rs i k) ?_ ?_
  · skip
    refine TL.run1 (pure_move rfl) rfl ?_
    refine TL.run1 (pure_lss rfl rfl) rfl ?_
    refine TL.run1 (pure_move rfl) rfl ?_
    first | refine TL.splitP 13 rfl (fun hg13 => ?_) (fun hg13 => ?_) | refine TL.split 13 rfl (fun hg13 => ?_) (fun hg13 => ?_)
    · try dsimp only at hg13
      refine TL.passG rfl rfl rfl rfl ?_
      refine TL.passG rfl rfl rfl rfl ?_
      refine TL.passG rfl rfl rfl rfl ?_
      refine TL.passG rfl rfl rfl rfl ?_
      refine TL.run1 (pure_pick_true rfl rfl) rfl ?_
      refine TL.run1 (pure_move rfl) rfl ?_
      refine TL.passG rfl rfl rfl rfl ?_
      refine TL.passG rfl rfl rfl rfl ?_
      refine TL.run1 (pure_pick_true rfl rfl) rfl ?_
      refine TL.run1 (pure_move rfl) rfl ?_
      refine TL.passG rfl rfl rfl rfl ?_
      refine TL.passG rfl rfl rfl rfl ?_
      refine TL.passG rfl rfl rfl rfl ?_
      refine TL.passG rfl rfl rfl rfl ?_
      refine TL.passG rfl rfl rfl rfl ?_
      refine TL.passG rfl rfl rfl rfl ?_
      refine TL.passG rfl rfl rfl rfl ?_
      refine TL.passG rfl rfl rfl rfl ?_
      refine TL.run1 (pure_pick_true rfl rfl) rfl ?_
      refine TL.cutEnd (by repeat (first | exact Same.refl _ _ | refine Same.put rfl ?_)) rfl ?_
      first | (unfold existsN; simp_all; done) | (unfold existsN; simp_all; omega) | grind [existsN]
    · try dsimp only at hg13
      refine TL.runG rfl rfl (pure_move rfl) rfl ?_
      refine TL.runG rfl rfl (pure_move rfl) rfl ?_
      first | refine TL.runG rfl rfl (pure_len Ty.sl22 rfl) rfl ?_ | refine TL.runG rfl rfl (pure_len_row Ty.sl22 rfl (by repeat (first | exact List.Mem.head _ | apply List.Mem.tail))) rfl ?_ | refine TL.runG rfl rfl (pure_len_nil Ty.sl22 rfl) rfl ?_
      refine TL.runG rfl rfl (pure_geq rfl rfl) rfl ?_
      refine TL.run1 (pure_pick_false rfl rfl) rfl ?_
      refine TL.run1 (pure_move rfl) rfl ?_
      first | refine TL.splitP 19 rfl (fun hg19 => ?_) (fun hg19 => ?_) | refine TL.split 19 rfl (fun hg19 => ?_) (fun hg19 => ?_)
      · try dsimp only at hg19
        refine TL.passG rfl rfl rfl rfl ?_
        refine TL.passG rfl rfl rfl rfl ?_
        refine TL.run1 (pure_pick_true rfl rfl) rfl ?_
        refine TL.run1 (pure_move rfl) rfl ?_
        refine TL.passG rfl rfl rfl rfl ?_
        refine TL.passG rfl rfl rfl rfl ?_
        refine TL.passG rfl rfl rfl rfl ?_
        refine TL.passG rfl rfl rfl rfl ?_
        refine TL.passG rfl rfl rfl rfl ?_
        refine TL.passG rfl rfl rfl rfl ?_
        refine TL.passG rfl rfl rfl rfl ?_
        refine TL.passG rfl rfl rfl rfl ?_
        refine TL.run1 (pure_pick_true rfl rfl) rfl ?_
        refine TL.cutEnd (by repeat (first | exact Same.refl _ _ | refine Same.put rfl ?_)) rfl ?_
        first | (unfold existsN; simp_all; done) | (unfold existsN; simp_all; omega) | grind [existsN]
      · try dsimp only at hg19
        refine TL.runG rfl rfl (pure_move rfl) rfl ?_
        refine TL.runG rfl rfl (pure_lss rfl rfl) rfl ?_
        refine TL.run1 (pure_pick_false rfl rfl) rfl ?_
        refine TL.run1 (pure_move rfl) rfl ?_
        first | refine TL.splitP 23 rfl (fun hg23 => ?_) (fun hg23 => ?_) | refine TL.split 23 rfl (fun hg23 => ?_) (fun hg23 => ?_)
        · try dsimp only at hg23
          refine TL.passG rfl rfl rfl rfl ?_
          refine TL.passG rfl rfl rfl rfl ?_
          refine TL.passG rfl rfl rfl rfl ?_
          refine TL.passG rfl rfl rfl rfl ?_
          refine TL.passG rfl rfl rfl rfl ?_
          refine TL.passG rfl rfl rfl rfl ?_
          refine TL.passG rfl rfl rfl rfl ?_
          refine TL.passG rfl rfl rfl rfl ?_
          refine TL.run1 (pure_pick_true rfl rfl) rfl ?_
          refine TL.cutEnd (by repeat (first | exact Same.refl _ _ | refine Same.put rfl ?_)) rfl ?_
          first | (unfold existsN; simp_all; done) | (unfold existsN; simp_all; omega) | grind [existsN]
        · try dsimp only at hg23
          have hrow := encRs_get rs i (by omega) (by omega)
          have hck := encCs_len (rAt rs i).cells
          refine TL.runG rfl rfl (pure_move rfl) rfl ?_
          refine TL.runG rfl rfl (pure_move rfl) rfl ?_
          refine TL.runG rfl rfl (pure_move rfl) rfl ?_
          refine TL.runG rfl rfl (pure_indexAddr Ty.sl22 rfl rfl (by omega) (by assumption) (List.cons_ne_nil _ _)) rfl ?_
          first | refine TL.runG rfl rfl (pure_fieldAddr Ty.f36_1 rfl (.succ (.succ (.succ (.succ (.succ (.zero _)))))) (List.cons_ne_nil _ _)) rfl ?_ | refine TL.runG rfl rfl (pure_fieldAddr_own Ty.f36_1 rfl) rfl ?_
          first | refine TL.runG rfl rfl (pure_load1 Ty.one34 rfl) rfl ?_ | refine TL.runG rfl rfl (pure_load1_own Ty.one34 rfl (by repeat (first | exact List.Mem.head _ | apply List.Mem.tail)) (by repeat (first | exact DropR.zero _ | apply DropR.succ))) rfl ?_
          first | refine TL.runG rfl rfl (pure_len Ty.sl34 rfl) rfl ?_ | refine TL.runG rfl rfl (pure_len_row Ty.sl34 rfl (by repeat (first | exact List.Mem.head _ | apply List.Mem.tail))) rfl ?_ | refine TL.runG rfl rfl (pure_len_nil Ty.sl34 rfl) rfl ?_
          refine TL.runG rfl rfl (pure_geq rfl rfl) rfl ?_
          refine TL.run1 (pure_pick_false rfl rfl) rfl ?_
          refine TL.cutEnd (by repeat (first | exact Same.refl _ _ | refine Same.put rfl ?_)) rfl ?_
          first | (unfold existsN; simp_all; done) | (unfold existsN; simp_all; omega) | grind [existsN]
  first | refine TC.condD rfl (fun hc32 => ?_) (fun hc32 => ?_) | refine TC.condN rfl (fun hc32 => ?_) (fun hc32 => ?_) | refine TC.cond rfl (fun hc32 => ?_) (fun hc32 => ?_)
  · try dsimp only at hc32
    have hne : ¬ existsN rs i k := hc32
    have hpr : placeR rs i k = q0 := by unfold placeR; rw [if_neg (fun h => hne h.1)]
    have hpe : placeE rs i k = 2 := by unfold placeE; rw [if_pos hne]
    refine TC.seq ?_
    refine TC.region ?_
    refine TL.run1 (pure_build Ty.pl40 Ty.zero40 (.nil _)) rfl ?_
    refine TL.store rfl rfl (.agg _) Try.sizeOf40 rfl (by repeat (first | exact UpdR.here _ | apply UpdR.there)) (by repeat (first | exact PutR.nil _ | apply PutR.here | apply PutR.skip)) ?_
    refine TL.run1 (pure_assign rfl) rfl ?_
    refine TL.nil' ?_
    refine TC.ret ?_
    refine then_ret ?_
    exact ret_cell_tmp (.inl rfl) Ty.agg40 rfl (by repeat (first | exact List.Mem.head _ | apply List.Mem.tail)) rfl rfl (by rw [hpr, hpe]; rfl)
  · try dsimp only at hc32
    have hex : existsN rs i k := Decidable.not_not.1 hc32
    refine TC.skip' ?_
    refine TC.seq ?_
    refine TC.region ?_
    refine TL.run1 (pure_move rfl) rfl ?_
    refine TL.run1 (pure_call (lay_spec rs hr.1 hl) (.cons rfl .nil) Try.call37) rfl ?_
    refine TL.alloc Ty.zero81 rfl (fun g8 => ?_)
    refine TL.store rfl rfl (.agg _) Try.sizeOf81 rfl (by repeat (first | exact UpdR.here _ | apply UpdR.there)) (by repeat (first | exact PutR.nil _ | apply PutR.here | apply PutR.skip)) ?_
    refine TL.nil' ?_
    refine TC.seq ?_
    refine TC.region ?_
    first | refine TL.run1 (pure_fieldAddr Ty.f81_2 rfl (.succ (.succ (.zero _))) (List.cons_ne_nil _ _)) rfl ?_ | refine TL.run1 (pure_fieldAddr_own Ty.f81_2 rfl) rfl ?_
    first | refine TL.run1 (pure_load1 Ty.one79 rfl) rfl ?_ | refine TL.run1 (pure_load1_own Ty.one79 rfl (by repeat (first | exact List.Mem.head _ | apply List.Mem.tail)) (by repeat (first | exact DropR.zero _ | apply DropR.succ))) rfl ?_
    refine TL.run1 (pure_move rfl) rfl ?_
    refine TL.run1 (pure_move rfl) rfl ?_
    refine TL.run1 (pure_build_arr Ty.pa90 Ty.zero90 (.cons rfl rfl (.one rfl) rfl (.here (.nil _)) (.cons rfl rfl (.one rfl) rfl (.skip (.here (.nil _))) (.nil _)))) rfl ?_
    refine TL.run1 (pure_look_data (m := layOf rs) (a := i) (b := k) Ty.map79 rfl rfl (lay_ok (fun r hh => (hr.1 r hh).2.2) rs.length (Nat.le_refl _)).n1) rfl ?_
    refine TL.run1 (pure_move rfl) rfl ?_
    refine TL.run1 (pure_extract rfl rfl) rfl ?_
    refine TL.run1 (pure_extract rfl rfl) rfl ?_
    refine TL.run1 (pure_assign rfl) rfl ?_
    refine TL.run1 (pure_assign rfl) rfl ?_
    refine TL.nil' ?_
    refine TC.seq ?_
    refine TC.seq ?_
    refine TC.region ?_
    refine TL.run1 (pure_move rfl) rfl ?_
    refine TL.run1 (pure_not rfl) rfl ?_
    refine TL.nil' ?_
    first | refine TC.condD rfl (fun hc46 => ?_) (fun hc46 => ?_) | refine TC.condN rfl (fun hc46 => ?_) (fun hc46 => ?_) | refine TC.cond rfl (fun hc46 => ?_) (fun hc46 => ?_)
    · try dsimp only at hc46
      have hnv : ¬ Val rs i k := fun hv => by (obtain ⟨n, hn, _⟩ := look_of hv; rw [hn] at hc46; simp at hc46)
      have heq : (spN rs i k).1 = (spN rs i k).2 := Decidable.not_not.1 fun h => hnv (place_val.2 ⟨hex, h⟩)
      have hpr : placeR rs i k = q0 := by unfold placeR; rw [if_neg (fun h => h.2 heq)]
      have hpe : placeE rs i k = 20 := by unfold placeE; rw [if_neg (by simpa using hex), if_pos heq]
      refine TC.seq ?_
      refine TC.region ?_
      refine TL.run1 (pure_build Ty.pl40 Ty.zero40 (.nil _)) rfl ?_
      refine TL.store rfl rfl (.agg _) Try.sizeOf40 rfl (by repeat (first | exact UpdR.here _ | apply UpdR.there)) (by repeat (first | exact PutR.nil _ | apply PutR.here | apply PutR.skip)) ?_
      refine TL.run1 (pure_assign rfl) rfl ?_
      refine TL.nil' ?_
      refine TC.ret ?_
      refine then_ret ?_
      exact ret_cell_tmp (.inl rfl) Ty.agg40 rfl (by repeat (first | exact List.Mem.head _ | apply List.Mem.tail)) rfl rfl (by rw [hpr, hpe]; rfl)
    · try dsimp only at hc46
      have hv : Val rs i k := Classical.byContradiction fun h => by (rw [look_not h] at hc46; simp at hc46)
      have hnq := (place_val.1 hv).2
      obtain ⟨n, hn, hn0, hn1, hn2⟩ := look_of hv
      have hnv : (look (layOf rs) (i, k)).getD 0 = n := by rw [hn]; rfl
      have hrow := encQs_get (layRects rs) ((look (layOf rs) (i, k)).getD 0) (by omega) (by omega)
      have hpr : placeR rs i k = rectN rs i k := by unfold placeR; rw [if_pos ⟨hex, hnq⟩]
      have hpe : placeE rs i k = 0 := by unfold placeE; rw [if_neg (by simpa using hex), if_neg hnq]
      refine TC.skip' ?_
      refine TC.seq ?_
      refine TC.region ?_
      first | refine TL.run1 (pure_fieldAddr Ty.f81_1 rfl (.succ (.zero _)) (List.cons_ne_nil _ _)) rfl ?_ | refine TL.run1 (pure_fieldAddr_own Ty.f81_1 rfl) rfl ?_
      first | refine TL.run1 (pure_load1 Ty.one25 rfl) rfl ?_ | refine TL.run1 (pure_load1_own Ty.one25 rfl (by repeat (first | exact List.Mem.head _ | apply List.Mem.tail)) (by repeat (first | exact DropR.zero _ | apply DropR.succ))) rfl ?_
      refine TL.run1 (pure_move rfl) rfl ?_
      refine TL.run1 (pure_indexAddr Ty.sl25 rfl rfl (by omega) (by assumption) (List.cons_ne_nil _ _)) rfl ?_
      first | refine TL.run1 (pure_load Ty.agg40 rfl (.succ (.succ (.succ (.succ (.succ (.succ (.zero _)))))))) rfl ?_ | refine TL.run1 (pure_load_own Ty.agg40 rfl (by repeat (first | exact List.Mem.head _ | apply List.Mem.tail)) (by repeat (first | exact DropR.zero _ | apply DropR.succ)) (.succ (.succ (.succ (.succ (.succ (.succ (.zero _)))))))) rfl ?_
      refine TL.store rfl rfl (.agg _) Try.sizeOf40 rfl (by repeat (first | exact UpdR.here _ | apply UpdR.there)) (by repeat (first | exact PutR.nil _ | apply PutR.here | apply PutR.skip)) ?_
      refine TL.run1 (pure_assign rfl) rfl ?_
      refine TL.nil' ?_
      refine TC.ret ?_
      exact ret_cell_tmp (.inl rfl) Ty.agg40 rfl (by repeat (first | exact List.Mem.head _ | apply List.Mem.tail)) rfl rfl (by rw [hpr, hpe, ← hn2, ← hnv]; rfl)
end Go.Ob
