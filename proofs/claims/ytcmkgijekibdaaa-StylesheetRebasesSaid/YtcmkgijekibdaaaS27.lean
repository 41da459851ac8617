import Derived.Test.YtcmkgijekibdaaaS26
set_option linter.unusedVariables false
set_option linter.unusedSimpArgs false
namespace Go.Ob
open Go.Proofs

theorem retF_one2 {P : Program} {H : Hp} {env : Env} {t1 t2 T1 T2 g1 g2 T1' T2' : Nat} {r d1 d2 : D} {e : Exit} (he : e = .ret ∨ e = .normal) (o1 : OneT P T1) (h1 : env t1 = some (.v (.pointer (some ⟨g1, 0, none⟩)))) (m1 : Blk.box g1 T1' [d1] ∈ H)
    (o2 : OneT P T2) (h2 : env t2 = some (.v (.pointer (some ⟨g2, 0, none⟩)))) (m2 : Blk.box g2 T2' [d2] ∈ H) (h : FrzR (· ∈ H) (.tup [d1, d2]) r) : RetF P [ResultVar.cell t1 T1, .cell t2 T2].toArray r e env H :=
  ⟨he, [d1, d2], .one o1 h1 m1 (.one o2 h2 m2 .nil), h⟩
theorem TC.rowOne {K : Ctx} {Q : Exit → Env → Hp → Prop} {env : Env} {H : Hp} {c : Code} {v : Value} {e es : Nat} {xs : List (List D)} (hm : Blk.row v e es xs ∈ H) (h : v.oneCell' = true → TC K c Q env H) : TC K c Q env H :=
  TC.rowShape hm fun hs => h (by rcases hs with ⟨rfl, _⟩ | ⟨g, cap, rfl, _⟩ <;> rfl)
theorem rebS_enc (l : List Sty) (id base : Int) : encSs (rebS l id base) = (encSs l).set (findS l id).toNat (encSt (rebT l id base)) := by simp [rebS, encSs]
set_option maxHeartbeats 1000000 in
set_option maxRecDepth 100000 in
theorem SRebase_spec (l : List Sty) (id base : Int) (hl : l.length ≤ 1000000) (hn : ∀ i, i < l.length → (yAt l i).name.size ≤ 1000000000) (hp : ∀ i, i < l.length → (yAt l i).props.length ≤ 1000000) : Fun Try.prog 41 [.sl 6 (encSs l), .v (.int .i64 id), .v (.int .i64 base)] (.tup [.sl 6 (encSs (rebV l id base)), .v (.int .i64 (rebE l id base))]) := by
  refine Fun.enterF (n := 139) (rs := [.cell 6 22, .cell 7 29]) Try.func41 rfl Try.ntmps41 Try.results41 rfl (fun w F => ?_)
  have hk := encSs_len l
  refine TC.seq ?_; refine TC.region ?_; refine TL.box rfl (.one rfl) rfl (fun g4 => ?_); refine TL.alloc Ty.zero22 rfl (fun g6 => ?_); refine TL.alloc Ty.zero29 rfl (fun g7 => ?_); refine TL.nil' ?_; refine TC.seq ?_; refine TC.freezeBox 4 (List.cons_ne_nil _ _) (.there _ (.there _ (.here _))) rfl ?_; refine TC.region ?_; refine TL.run1 (pure_move rfl) rfl ?_; refine TL.run1 (pure_load1 Ty.one3 rfl) rfl ?_; refine TL.run1 (pure_call (found_spec l id hl hn hp) (.cons rfl (.cons rfl .nil)) Try.call58) rfl ?_; refine TL.run1 (pure_move rfl) rfl ?_; (iterate 2 refine TL.run1 (pure_extract rfl rfl) rfl ?_); refine TL.alloc Ty.zero28 rfl (fun g8 => ?_); refine TL.store rfl rfl (.agg _) Try.sizeOf28 rfl (by repeat (first | exact UpdR.here _ | apply UpdR.there)) (by repeat (first | exact PutR.nil _ | apply PutR.here | apply PutR.skip)) ?_; refine TL.run1 (pure_assign rfl) rfl ?_; refine TL.nil' ?_; refine TC.seq ?_; refine TC.block ?_; refine TC.seq ?_; refine TC.freezeBox 8 (List.cons_ne_nil _ _) (.here _) rfl ?_; refine TC.region ?_; refine TL.run1 (pure_move rfl) rfl ?_; refine TL.run1 (pure_neq rfl rfl) rfl ?_; refine TL.run1 (pure_assign rfl) rfl ?_; refine TL.nil' ?_; refine TC.condD rfl (fun hc33 => ?_) (fun hc33 => ?_)
  · try dsimp only at hc33
    refine TC.seq ?_; refine TC.nilrow 28 6 ?_; refine TC.region ?_; refine TL.run1 (pure_move rfl) rfl ?_; refine TL.store rfl rfl (.one (by first | rfl | assumption)) Try.sizeOf22 rfl (by repeat (first | exact UpdR.here _ | apply UpdR.there)) (by repeat (first | exact PutR.nil _ | apply PutR.here | apply PutR.skip)) ?_; refine TL.store rfl rfl (.one (by first | rfl | assumption)) Try.sizeOf29 rfl (by repeat (first | exact UpdR.here _ | apply UpdR.there)) (by repeat (first | exact PutR.nil _ | apply PutR.here | apply PutR.skip)) ?_; refine TL.nil' ?_; refine TC.ret ?_; refine block_ret ?_; refine then_ret ?_
    have hE : rebE l id base = foundE l id := by (unfold rebE; rw [if_pos hc33])
    rw [rebV_bad (by rw [hE]; first | exact hc33 | decide), hE]
    exact retF_one2 (.inl rfl) Ty.one22 rfl (by repeat (first | exact List.Mem.head _ | apply List.Mem.tail)) Ty.one29 rfl (by repeat (first | exact List.Mem.head _ | apply List.Mem.tail)) (.tupL (.cons (.rowS (e := 28) (xs := []) (by repeat (first | exact List.Mem.head _ | apply List.Mem.tail)) (by decide) (by simp)) (.cons (.same _) .nil)))
  · try dsimp only at hc33
    have hz : foundE l id = 0 := Classical.not_not.1 hc33
    obtain ⟨hg, hfd⟩ := foundE_ok hz
    rw [foundV_is hz]
    have hfr := findS_range l id
    have hx := encSs_getN l (findS l id).toNat (by omega)
    have hx1 : ∀ c, ((encSs l).set (findS l id).toNat c)[(findS l id).toNat]? = some c := fun c => by rw [List.getElem?_set_self]; omega
    refine TC.regionCut [38, 39, 40, 41, 42, 43, 44, 45, 46, 47, 37] 37 (base ≠ 0 ∧ ¬ isP l (yF l id).kind base) ?_ ?_
    · skip
      refine TL.run1 (pure_move rfl) rfl ?_; refine TL.run1 (pure_neq rfl rfl) rfl ?_; refine TL.run1 (pure_move rfl) rfl ?_; refine TL.splitP 40 rfl (fun hg40 => ?_) (fun hg40 => ?_)
      · try dsimp only at hg40
        refine TL.runG rfl rfl (pure_move rfl) rfl ?_; refine TL.runG rfl rfl (pure_fieldAddr Ty.f28_1 rfl (.succ (.zero _)) (List.cons_ne_nil _ _)) rfl ?_; refine TL.runG rfl rfl (pure_load1 Ty.one3 rfl) rfl ?_; refine TL.runG rfl rfl (pure_move rfl) rfl ?_; refine TL.runG rfl rfl (pure_call (is_spec l (yF l id).kind base hl) (.cons rfl (.cons rfl (.cons rfl .nil))) Try.call45) rfl ?_; refine TL.runG rfl rfl (pure_not rfl) rfl ?_; refine TL.run1 (pure_pick_true rfl rfl) rfl ?_; refine TL.run1 (pure_assign rfl) rfl ?_; refine TL.cutEnd (by repeat (first | exact Same.refl _ _ | refine Same.put rfl ?_)) rfl ?_
        first | (simp_all; done) | grind
      · try dsimp only at hg40
        (iterate 6 refine TL.passG rfl rfl rfl rfl ?_); refine TL.run1 (pure_pick_false rfl rfl) rfl ?_; refine TL.run1 (pure_assign rfl) rfl ?_; refine TL.cutEnd (by repeat (first | exact Same.refl _ _ | refine Same.put rfl ?_)) rfl ?_
        first | (simp_all; done) | grind
    refine TC.condD rfl (fun hc37 => ?_) (fun hc37 => ?_)
    · try dsimp only at hc37
      refine TC.seq ?_; refine TC.nilrow 28 6 ?_; refine TC.region ?_; refine TL.store rfl rfl (.one (by first | rfl | assumption)) Try.sizeOf22 rfl (by repeat (first | exact UpdR.here _ | apply UpdR.there)) (by repeat (first | exact PutR.nil _ | apply PutR.here | apply PutR.skip)) ?_; refine TL.store rfl rfl (.one (by first | rfl | assumption)) Try.sizeOf29 rfl (by repeat (first | exact UpdR.here _ | apply UpdR.there)) (by repeat (first | exact PutR.nil _ | apply PutR.here | apply PutR.skip)) ?_; refine TL.nil' ?_; refine TC.ret ?_; refine block_ret ?_; refine then_ret ?_
      have hE : rebE l id base = 25 := by (unfold rebE; rw [if_neg hc33, if_pos hc37])
      rw [rebV_bad (by rw [hE]; first | exact hc33 | decide), hE]
      exact retF_one2 (.inl rfl) Ty.one22 rfl (by repeat (first | exact List.Mem.head _ | apply List.Mem.tail)) Ty.one29 rfl (by repeat (first | exact List.Mem.head _ | apply List.Mem.tail)) (.tupL (.cons (.rowS (e := 28) (xs := []) (by repeat (first | exact List.Mem.head _ | apply List.Mem.tail)) (by decide) (by simp)) (.cons (.same _) .nil)))
    · try dsimp only at hc37
      have hb0 : base = 0 ∨ 0 ≤ findS l base := Classical.byContradiction fun h => hc37 ⟨fun e => h (.inl e), fun e => h (.inr e.1)⟩
      refine TC.skip ?_; refine block_normal ?_; refine then_normal ?_; (iterate 2 refine TC.seq ?_); refine TC.region ?_; (iterate 2 refine TL.run1 (pure_move rfl) rfl ?_); refine TL.callD (SplitR.none _) (chain_spec l base) (.cons rfl (.cons rfl .nil)) Try.call46 (fun t ht => by cases ht; exact of_decide_eq_true rfl) ?_
      rintro r2 H2 ⟨g, rfl, rfl⟩
      simp only [List.cons_append, List.nil_append]
      refine TL.nil' ?_; refine TC.block ?_; refine TC.rangeFuncC (pre := [.at_ [.sl 6 (encSs l)]]) (xs := (chD l base (chN l base))) rfl rfl Try.call70 (chain_seq l base (chN l base) g hg.inc hl (hg.chain hb0).1.on) (fun k H => (∀ j, j < k → sq l base j ≠ id) ∧ List.Sublist [Blk.box g7 29 [.v (.int .i64 0)], Blk.box g6 22 [.v (.slice none 0 0)]] H) (fun e H => e = .ret ∧ onP l base id ∧ List.Sublist [Blk.row (.slice none 0 0) 28 6 [], Blk.box g7 29 [.v (.int .i64 16)], Blk.box g6 22 [.v (.slice none 0 0)]] H) ⟨fun j h => by omega, by repeat (first | exact List.nil_sublist _ | exact List.Sublist.refl _ | apply List.Sublist.cons_cons | apply List.Sublist.cons)⟩ (.inl (hg.chain hb0).1.off) ?_ (by rfl) ?_ ?_ ?_ ?_
      · skip
        intro x hx
        unfold chD at hx
        obtain ⟨k, _, rfl⟩ := List.mem_map.1 hx
        rfl
      · skip
        rintro k x Hc w F S lr hx ⟨hno, hsub⟩
        refine TC.forget (fun _ _ h => h) hsub ?_
        have hkN : k < chN l base := by have := (List.getElem?_eq_some_iff.1 hx).1; rwa [chD_len] at this
        obtain rfl : x = [.agg [.v (.int .i64 (yF l (sq l base k)).id), .v (.int .i64 (yF l (sq l base k)).kind), .v (.string (yF l (sq l base k)).name), .v (.int .i64 (yF l (sq l base k)).base), .v (.int .i64 (yF l (sq l base k)).next), .sl 2 (encP (yF l (sq l base k)).props)]] := by (rw [chD_get _ _ _ _ hkN] at hx; exact (Option.some.inj hx).symm)
        have hyi := yF_id ((hg.chain hb0).1.on k hkN).2
        refine TC.region ?_; refine TL.alloc Ty.zero28 rfl (fun g10 => ?_); refine TL.store rfl rfl (.agg _) Try.sizeOf28 rfl (by repeat (first | exact UpdR.here _ | apply UpdR.there)) (by repeat (first | exact PutR.nil _ | apply PutR.here | apply PutR.skip)) ?_; refine TL.nil ?_; refine ⟨rfl, fun w F S => ?_⟩; refine TC.block ?_; refine TC.seq ?_; refine TC.region ?_; refine TL.run1 (pure_fieldAddr_own Ty.f28_0 rfl) rfl ?_; refine TL.run1 (pure_load1_own Ty.one3 rfl (by repeat (first | exact List.Mem.head _ | apply List.Mem.tail)) (by repeat (first | exact DropR.zero _ | apply DropR.succ))) rfl ?_; refine TL.run1 (pure_load1 Ty.one3 rfl) rfl ?_; refine TL.run1 (pure_eql rfl rfl) rfl ?_; refine TL.nil' ?_; refine TC.condD rfl (fun hc55 => ?_) (fun hc55 => ?_)
        · try dsimp only at hc55
          refine TC.seq ?_; refine TC.nilrow 28 6 ?_; refine TC.region ?_; refine TL.store rfl rfl (.one (by first | rfl | assumption)) Try.sizeOf22 rfl (by repeat (first | exact UpdR.here _ | apply UpdR.there)) (by repeat (first | exact PutR.nil _ | apply PutR.here | apply PutR.skip)) ?_; refine TL.store rfl rfl (.one (by first | rfl | assumption)) Try.sizeOf29 rfl (by repeat (first | exact UpdR.here _ | apply UpdR.there)) (by repeat (first | exact PutR.nil _ | apply PutR.here | apply PutR.skip)) ?_; refine TL.nil' ?_; refine TC.ret ?_; refine block_ret ?_
          exact ⟨rfl, ⟨k, hkN, by rw [← hyi]; exact hc55⟩, by repeat (first | exact List.nil_sublist _ | exact List.Sublist.refl _ | apply List.Sublist.cons_cons | apply List.Sublist.cons)⟩
        · try dsimp only at hc55
          refine TC.skip ?_; refine block_normal ?_
          exact ⟨fun j hj => by (rcases Nat.lt_or_eq_of_le (Nat.le_of_lt_succ hj) with h | h; exact hno j h; (subst h; rw [← hyi]; exact hc55)), by repeat (first | exact List.nil_sublist _ | exact List.Sublist.refl _ | apply List.Sublist.cons_cons | apply List.Sublist.cons)⟩
      · skip
        rintro Hc ⟨hno, hsub⟩
        rw [chD_len] at hno
        have hoff : ¬ onP l base id := fun ⟨k, hk, h⟩ => hno k hk h
        refine block_normal ?_; refine then_normal ?_; refine TC.seq ?_; refine TC.forget (fun _ _ h => h) hsub ?_
        have heg := hg.effP (.inr hfd)
        have hbg := hg.effP hb0
        have hel := heg.len
        have hbl := hbg.len
        have hke := encP_len (effP l id)
        have hkb := encP_len (effP l base)
        refine TC.region ?_; refine TL.run1 (pure_move rfl) rfl ?_; refine TL.run1 (pure_load1 Ty.one3 rfl) rfl ?_; refine TL.run1 (pure_call (effective_spec l id hg (.inr hfd)) (.cons rfl (.cons rfl .nil)) Try.call59) rfl ?_; (iterate 2 refine TL.run1 (pure_move rfl) rfl ?_); refine TL.run1 (pure_call (effective_spec l base hg hb0) (.cons rfl (.cons rfl .nil)) Try.call59) rfl ?_; (iterate 2 refine TL.run1 (pure_assign rfl) rfl ?_); refine TL.nil' ?_; refine TC.seq ?_; refine TC.region ?_; refine TL.run1 (pure_assign rfl) rfl ?_; refine TL.le 13 rfl (Le.nil 2) ?_; refine TL.nil' ?_; (iterate 2 refine TC.seq ?_); refine TC.region ?_; refine TL.run1 (pure_move rfl) rfl ?_; refine TL.run1 (pure_len Ty.sl26 rfl) rfl ?_; refine TL.run1 (pure_move rfl) rfl ?_; refine TL.nil' ?_; refine TC.block ?_; refine TC.loopX (X := Nat) (fun i => [(0, .sl 6 (encSs l)), (2, .v (.int .i64 base)), (4, .at_ [.v (.int .i64 id)]), (6, .v (.pointer (some ⟨g6, 0, none⟩))), (7, .v (.pointer (some ⟨g7, 0, none⟩))), (11, .sl 2 (encP (effP l id))), (12, .sl 2 (encP (effP l base))), (13, .sl 2 (encP (p1To (effP l id) (effP l base) i))), (62, .sl 2 (encP (effP l id))), (63, .v (.int .i64 (encP (effP l id)).length)), (64, .v (.int .i64 i))]) (fun i => [Blk.box g7 29 [.v (.int .i64 0)], Blk.box g6 22 [.v (.slice none 0 0)]]) (fun i => (i ≤ (effP l id).length)) (fun i => (effP l id).length - i) (0) ⟨by skip; repeat (first | exact Agree.nil | refine Agree.cons rfl ?_), by skip; repeat (first | exact List.nil_sublist _ | exact List.Sublist.refl _ | apply List.Sublist.cons_cons | apply List.Sublist.cons)⟩ ?_ ?_
        · skip
          exact Nat.zero_le _
        intro i
        intro h1
        show TC _ _ _ (Env.of [(0, .sl 6 (encSs l)), (2, .v (.int .i64 base)), (4, .at_ [.v (.int .i64 id)]), (6, .v (.pointer (some ⟨g6, 0, none⟩))), (7, .v (.pointer (some ⟨g7, 0, none⟩))), (11, .sl 2 (encP (effP l id))), (12, .sl 2 (encP (effP l base))), (13, .sl 2 (encP (p1To (effP l id) (effP l base) i))), (62, .sl 2 (encP (effP l id))), (63, .v (.int .i64 (encP (effP l id)).length)), (64, .v (.int .i64 i))]) [Blk.box g7 29 [.v (.int .i64 0)], Blk.box g6 22 [.v (.slice none 0 0)]]
        refine TC.seq ?_; refine TC.region ?_; refine TL.run1 (pure_lss rfl rfl) rfl ?_; refine TL.nil' ?_; refine TC.seq ?_; refine TC.condD rfl (fun hc65 => ?_) (fun hc65 => ?_)
        · try dsimp only at hc65
          refine TC.skip' ?_; refine TC.seq ?_; refine TC.block ?_; refine TC.seq ?_
          have hil : i < (effP l id).length := by omega
          have hrow := encP_getN (effP l id) i hil
          have hps := (p1To_spec (b := (effP l base)) heg i (by omega)).1
          have hpl := hps.len
          refine TC.region ?_; refine TL.run1 (pure_indexAddr Ty.sl26 rfl rfl (by omega) hrow (List.cons_ne_nil _ _)) rfl ?_; refine TL.run1 (pure_load Ty.agg38 rfl (.succ (.succ (.zero _)))) rfl ?_; refine TL.alloc Ty.zero38 rfl (fun g15 => ?_); refine TL.store rfl rfl (.agg _) Try.sizeOf38 rfl (by repeat (first | exact UpdR.here _ | apply UpdR.there)) (by repeat (first | exact PutR.nil _ | apply PutR.here | apply PutR.skip)) ?_; refine TL.nil' ?_; refine TC.seq ?_; refine TC.region ?_; refine TL.run1 (pure_move rfl) rfl ?_; refine TL.run1 (pure_fieldAddr_own Ty.f38_0 rfl) rfl ?_; refine TL.run1 (pure_load1_own Ty.one3 rfl (by repeat (first | exact List.Mem.head _ | apply List.Mem.tail)) (by repeat (first | exact DropR.zero _ | apply DropR.succ))) rfl ?_; refine TL.run1 (pure_call (getPr_spec (effP l base) (pAt (effP l id) i).1 hbg.1 (by omega)) (.cons rfl (.cons rfl .nil)) Try.call66) rfl ?_; refine TL.run1 (pure_move rfl) rfl ?_; (iterate 2 refine TL.run1 (pure_extract rfl rfl) rfl ?_); (iterate 2 refine TL.run1 (pure_assign rfl) rfl ?_); refine TL.nil' ?_
          rw [in_look8 hbg.1, getP_look (effP l base)]
          refine TC.regionCut [75, 76, 77, 78, 79, 80, 81, 82] 82 (¬ lookP (effP l base) (pAt (effP l id) i).1 = some (pAt (effP l id) i).2) ?_ ?_
          · skip
            refine TL.run1 (pure_move rfl) rfl ?_; refine TL.run1 (pure_not rfl) rfl ?_; refine TL.run1 (pure_move rfl) rfl ?_; refine TL.split 77 rfl (fun hg77 => ?_) (fun hg77 => ?_)
            · try dsimp only at hg77
              (iterate 4 refine TL.passG rfl rfl rfl rfl ?_); refine TL.run1 (pure_pick_true rfl rfl) rfl ?_; refine TL.cutEnd (by repeat (first | exact Same.refl _ _ | refine Same.put rfl ?_)) rfl ?_
              first | (cases hlk : lookP (effP l base) (pAt (effP l id) i).1 <;> simp_all; done) | grind
            · try dsimp only at hg77
              refine TL.runG rfl rfl (pure_move rfl) rfl ?_; refine TL.runG rfl rfl (pure_fieldAddr_own Ty.f38_1 rfl) rfl ?_; refine TL.runG rfl rfl (pure_load1_own Ty.one3 rfl (by repeat (first | exact List.Mem.head _ | apply List.Mem.tail)) (by repeat (first | exact DropR.zero _ | apply DropR.succ))) rfl ?_; refine TL.runG rfl rfl (pure_neq rfl rfl) rfl ?_; refine TL.run1 (pure_pick_false rfl rfl) rfl ?_; refine TL.cutEnd (by repeat (first | exact Same.refl _ _ | refine Same.put rfl ?_)) rfl ?_
              first | (cases hlk : lookP (effP l base) (pAt (effP l id) i).1 <;> simp_all; done) | grind
          refine TC.condD rfl (fun hc82 => ?_) (fun hc82 => ?_)
          · try dsimp only at hc82
            refine TC.region ?_; refine TL.run1 (pure_move rfl) rfl ?_; refine TL.run1 (pure_fieldAddr_own Ty.f38_0 rfl) rfl ?_; refine TL.run1 (pure_load1_own Ty.one3 rfl (by repeat (first | exact List.Mem.head _ | apply List.Mem.tail)) (by repeat (first | exact DropR.zero _ | apply DropR.succ))) rfl ?_; refine TL.run1 (pure_fieldAddr_own Ty.f38_1 rfl) rfl ?_; refine TL.run1 (pure_load1_own Ty.one3 rfl (by repeat (first | exact List.Mem.head _ | apply List.Mem.tail)) (by repeat (first | exact DropR.zero _ | apply DropR.succ))) rfl ?_; refine TL.run1 (pure_call (Set_spec (p1To (effP l id) (effP l base) i) (pAt (effP l id) i).1 (pAt (effP l id) i).2 hps.1 (by omega)) (.cons rfl (.cons rfl (.cons rfl .nil))) Try.call67) rfl ?_; refine TL.run1 (pure_assign rfl) rfl ?_; refine TL.nil ?_; refine block_normal ?_; refine then_normal ?_; refine TC.region ?_; refine TL.run1 (pure_add rfl rfl (mkI64 (by omega) (by omega))) rfl ?_; refine TL.run1 (pure_move rfl) rfl ?_; refine TL.nil ?_
            have hst : p1To (effP l id) (effP l base) (i + 1) = setP (p1To (effP l id) (effP l base) i) (pAt (effP l id) i).1 (pAt (effP l id) i).2 := by rw [p1To, if_neg hc82]
            refine loop_next (i + 1) ⟨by ((try dsimp only); rw [hst, show (((i + 1 : Nat)) : Int) = (i : Int) + 1 by omega]; repeat (first | exact Agree.nil | refine Agree.cons rfl ?_)), by repeat (first | exact List.nil_sublist _ | exact List.Sublist.refl _ | apply List.Sublist.cons_cons | apply List.Sublist.cons)⟩ (show i + 1 ≤ _ by omega) (by omega)
          · try dsimp only at hc82
            refine TC.skip ?_; refine block_normal ?_; refine then_normal ?_; refine TC.region ?_; refine TL.run1 (pure_add rfl rfl (mkI64 (by omega) (by omega))) rfl ?_; refine TL.run1 (pure_move rfl) rfl ?_; refine TL.nil ?_
            have hst : p1To (effP l id) (effP l base) (i + 1) = p1To (effP l id) (effP l base) i := by rw [p1To, if_pos (Classical.not_not.1 hc82)]
            refine loop_next (i + 1) ⟨by ((try dsimp only); rw [hst, show (((i + 1 : Nat)) : Int) = (i : Int) + 1 by omega]; repeat (first | exact Agree.nil | refine Agree.cons rfl ?_)), by repeat (first | exact List.nil_sublist _ | exact List.Sublist.refl _ | apply List.Sublist.cons_cons | apply List.Sublist.cons)⟩ (show i + 1 ≤ _ by omega) (by omega)
        · try dsimp only at hc65
          have hie : i = (effP l id).length := by omega
          subst hie
          refine TC.exit ?_; refine then_exit ?_; refine loop_exit ?_; refine block_here ?_; refine then_normal ?_; (iterate 2 refine TC.seq ?_); refine TC.region ?_; refine TL.run1 (pure_move rfl) rfl ?_; refine TL.run1 (pure_len Ty.sl26 rfl) rfl ?_; refine TL.run1 (pure_move rfl) rfl ?_; refine TL.nil' ?_; refine TC.block ?_; refine TC.loopX (X := Nat) (fun i => [(0, .sl 6 (encSs l)), (2, .v (.int .i64 base)), (4, .at_ [.v (.int .i64 id)]), (6, .v (.pointer (some ⟨g6, 0, none⟩))), (7, .v (.pointer (some ⟨g7, 0, none⟩))), (11, .sl 2 (encP (effP l id))), (12, .sl 2 (encP (effP l base))), (13, .sl 2 (encP (p2To (effP l id) (effP l base) i))), (90, .sl 2 (encP (effP l base))), (91, .v (.int .i64 (encP (effP l base)).length)), (92, .v (.int .i64 i))]) (fun i => [Blk.box g7 29 [.v (.int .i64 0)], Blk.box g6 22 [.v (.slice none 0 0)]]) (fun i => (i ≤ (effP l base).length)) (fun i => (effP l base).length - i) (0) ⟨by skip; repeat (first | exact Agree.nil | refine Agree.cons rfl ?_), by skip; repeat (first | exact List.nil_sublist _ | exact List.Sublist.refl _ | apply List.Sublist.cons_cons | apply List.Sublist.cons)⟩ ?_ ?_
          · skip
            exact Nat.zero_le _
          intro i
          intro h1
          show TC _ _ _ (Env.of [(0, .sl 6 (encSs l)), (2, .v (.int .i64 base)), (4, .at_ [.v (.int .i64 id)]), (6, .v (.pointer (some ⟨g6, 0, none⟩))), (7, .v (.pointer (some ⟨g7, 0, none⟩))), (11, .sl 2 (encP (effP l id))), (12, .sl 2 (encP (effP l base))), (13, .sl 2 (encP (p2To (effP l id) (effP l base) i))), (90, .sl 2 (encP (effP l base))), (91, .v (.int .i64 (encP (effP l base)).length)), (92, .v (.int .i64 i))]) [Blk.box g7 29 [.v (.int .i64 0)], Blk.box g6 22 [.v (.slice none 0 0)]]
          refine TC.seq ?_; refine TC.region ?_; refine TL.run1 (pure_lss rfl rfl) rfl ?_; refine TL.nil' ?_; refine TC.seq ?_; refine TC.condD rfl (fun hc93 => ?_) (fun hc93 => ?_)
          · try dsimp only at hc93
            refine TC.skip' ?_; refine TC.seq ?_; refine TC.block ?_; refine TC.seq ?_
            have hil : i < (effP l base).length := by omega
            have hrow := encP_getN (effP l base) i hil
            have hps := (p2To_spec heg hbg i (by omega)).1
            have hpl := hps.len
            refine TC.region ?_; refine TL.run1 (pure_indexAddr Ty.sl26 rfl rfl (by omega) hrow (List.cons_ne_nil _ _)) rfl ?_; refine TL.run1 (pure_load Ty.agg38 rfl (.succ (.succ (.zero _)))) rfl ?_; refine TL.alloc Ty.zero38 rfl (fun g19 => ?_); refine TL.store rfl rfl (.agg _) Try.sizeOf38 rfl (by repeat (first | exact UpdR.here _ | apply UpdR.there)) (by repeat (first | exact PutR.nil _ | apply PutR.here | apply PutR.skip)) ?_; refine TL.nil' ?_; (iterate 2 refine TC.seq ?_); refine TC.region ?_; refine TL.run1 (pure_move rfl) rfl ?_; refine TL.run1 (pure_fieldAddr_own Ty.f38_0 rfl) rfl ?_; refine TL.run1 (pure_load1_own Ty.one3 rfl (by repeat (first | exact List.Mem.head _ | apply List.Mem.tail)) (by repeat (first | exact DropR.zero _ | apply DropR.succ))) rfl ?_; refine TL.run1 (pure_call (getPr_spec (effP l id) (pAt (effP l base) i).1 heg.1 (by omega)) (.cons rfl (.cons rfl .nil)) Try.call66) rfl ?_; refine TL.run1 (pure_move rfl) rfl ?_; (iterate 2 refine TL.run1 (pure_extract rfl rfl) rfl ?_); (iterate 2 refine TL.run1 (pure_assign rfl) rfl ?_); refine TL.nil' ?_; refine TC.seq ?_
            rw [in_look8 heg.1]
            refine TC.region ?_; refine TL.run1 (pure_move rfl) rfl ?_; refine TL.nil' ?_; refine TC.cond rfl (fun hc103 => ?_) (fun hc103 => ?_)
            · try dsimp only at hc103
              refine TC.exit ?_; refine then_exit ?_; refine block_here ?_; refine then_normal ?_; refine TC.region ?_; refine TL.run1 (pure_add rfl rfl (mkI64 (by omega) (by omega))) rfl ?_; refine TL.run1 (pure_move rfl) rfl ?_; refine TL.nil ?_
              have hst : p2To (effP l id) (effP l base) (i + 1) = p2To (effP l id) (effP l base) i := by rw [p2To, if_pos hc103]
              refine loop_next (i + 1) ⟨by ((try dsimp only); rw [hst, show (((i + 1 : Nat)) : Int) = (i : Int) + 1 by omega]; repeat (first | exact Agree.nil | refine Agree.cons rfl ?_)), by repeat (first | exact List.nil_sublist _ | exact List.Sublist.refl _ | apply List.Sublist.cons_cons | apply List.Sublist.cons)⟩ (show i + 1 ≤ _ by omega) (by omega)
            · try dsimp only at hc103
              have hc103 : ¬ (lookP (effP l id) (pAt (effP l base) i).1).isSome = true := by (rw [hc103]; decide)
              refine TC.skip' ?_; refine TC.seq ?_; refine TC.region ?_; refine TL.run1 (pure_fieldAddr_own Ty.f38_0 rfl) rfl ?_; refine TL.run1 (pure_load1_own Ty.one3 rfl (by repeat (first | exact List.Mem.head _ | apply List.Mem.tail)) (by repeat (first | exact DropR.zero _ | apply DropR.succ))) rfl ?_; refine TL.run1 (pure_call (default_spec (pAt (effP l base) i).1) (.cons rfl .nil) Try.call68) rfl ?_; refine TL.run1 (pure_move rfl) rfl ?_; (iterate 2 refine TL.run1 (pure_extract rfl rfl) rfl ?_); (iterate 2 refine TL.run1 (pure_assign rfl) rfl ?_); refine TL.nil' ?_; refine TC.seq ?_; refine TC.region ?_; refine TL.run1 (pure_move rfl) rfl ?_; refine TL.run1 (pure_fieldAddr_own Ty.f38_1 rfl) rfl ?_; refine TL.run1 (pure_load1_own Ty.one3 rfl (by repeat (first | exact List.Mem.head _ | apply List.Mem.tail)) (by repeat (first | exact DropR.zero _ | apply DropR.succ))) rfl ?_; refine TL.run1 (pure_neq rfl rfl) rfl ?_; refine TL.nil' ?_; refine TC.condD rfl (fun hc113 => ?_) (fun hc113 => ?_)
              · try dsimp only at hc113
                refine TC.region ?_; refine TL.run1 (pure_move rfl) rfl ?_; refine TL.run1 (pure_fieldAddr_own Ty.f38_0 rfl) rfl ?_; refine TL.run1 (pure_load1_own Ty.one3 rfl (by repeat (first | exact List.Mem.head _ | apply List.Mem.tail)) (by repeat (first | exact DropR.zero _ | apply DropR.succ))) rfl ?_; refine TL.run1 (pure_move rfl) rfl ?_; refine TL.run1 (pure_call (Set_spec (p2To (effP l id) (effP l base) i) (pAt (effP l base) i).1 (findK (pAt (effP l base) i).1).std hps.1 (by omega)) (.cons rfl (.cons rfl (.cons rfl .nil))) Try.call67) rfl ?_; refine TL.run1 (pure_assign rfl) rfl ?_; refine TL.nil ?_; refine block_normal ?_; refine then_normal ?_; refine TC.region ?_; refine TL.run1 (pure_add rfl rfl (mkI64 (by omega) (by omega))) rfl ?_; refine TL.run1 (pure_move rfl) rfl ?_; refine TL.nil ?_
                have hst : p2To (effP l id) (effP l base) (i + 1) = setP (p2To (effP l id) (effP l base) i) (pAt (effP l base) i).1 (findK (pAt (effP l base) i).1).std := by rw [p2To, if_neg hc103, if_neg hc113]
                refine loop_next (i + 1) ⟨by ((try dsimp only); rw [hst, show (((i + 1 : Nat)) : Int) = (i : Int) + 1 by omega]; repeat (first | exact Agree.nil | refine Agree.cons rfl ?_)), by repeat (first | exact List.nil_sublist _ | exact List.Sublist.refl _ | apply List.Sublist.cons_cons | apply List.Sublist.cons)⟩ (show i + 1 ≤ _ by omega) (by omega)
              · try dsimp only at hc113
                refine TC.skip ?_; refine block_normal ?_; refine then_normal ?_; refine TC.region ?_; refine TL.run1 (pure_add rfl rfl (mkI64 (by omega) (by omega))) rfl ?_; refine TL.run1 (pure_move rfl) rfl ?_; refine TL.nil ?_
                have hst : p2To (effP l id) (effP l base) (i + 1) = p2To (effP l id) (effP l base) i := by rw [p2To, if_neg hc103, if_pos (Classical.not_not.1 hc113)]
                refine loop_next (i + 1) ⟨by ((try dsimp only); rw [hst, show (((i + 1 : Nat)) : Int) = (i : Int) + 1 by omega]; repeat (first | exact Agree.nil | refine Agree.cons rfl ?_)), by repeat (first | exact List.nil_sublist _ | exact List.Sublist.refl _ | apply List.Sublist.cons_cons | apply List.Sublist.cons)⟩ (show i + 1 ≤ _ by omega) (by omega)
          · try dsimp only at hc93
            have hje : i = (effP l base).length := by omega
            subst hje
            rw [p2To_full heg hbg]
            have hE : rebE l id base = 0 := by (unfold rebE; rw [if_neg hc33, if_neg hc37, if_neg hoff])
            refine TC.exit ?_; refine then_exit ?_; refine loop_exit ?_; refine block_here ?_; refine then_normal ?_; refine TC.seq ?_; refine TC.region ?_; refine TL.run1 (pure_move rfl) rfl ?_; refine TL.callD (SplitR.none _) (clone_spec l hl hp) (.cons rfl .nil) Try.call64 (fun t ht => by cases ht; exact of_decide_eq_true rfl) ?_
            rintro r2 H2 ⟨v24, rfl, rfl⟩
            simp only [List.cons_append, List.nil_append]
            refine TL.run1 (pure_assign rfl) rfl ?_; refine TL.nil' ?_; refine TC.seq ?_; refine TC.region ?_; refine TL.run1 (pure_move rfl) rfl ?_; refine TL.run1 (pure_load1 Ty.one3 rfl) rfl ?_; refine TL.run1 (pure_callF (.cons rfl (.cons rfl .nil)) (.cons (.rowS (by repeat (first | exact List.Mem.head _ | apply List.Mem.tail)) (show (0 : Nat) < 6 by decide) (encSs_each l)) (.cons (.same _) .nil)) (SFind_spec l id hl) trivial Try.call24) rfl ?_; refine TL.run1 (pure_move rfl) rfl ?_; (iterate 2 refine TL.run1 (pure_extract rfl rfl) rfl ?_); (iterate 2 refine TL.run1 (pure_assign rfl) rfl ?_); refine TL.nil' ?_; refine TC.seq ?_; refine TC.region ?_; (iterate 6 refine TL.run1 (pure_move rfl) rfl ?_); refine TL.indexRow Ty.sl22 rfl rfl (by repeat (first | exact List.Mem.head _ | apply List.Mem.tail)) (by omega) (by omega) rfl (fun g134 hg134 => ?_); refine TL.run1 (pure_fieldAddr_own Ty.f28_3 rfl) rfl ?_; refine TL.storeRow (es := 6) (i := (findS l id).toNat) (o := 3) (c' := [.v (.int .i64 (yF l id).id), .v (.int .i64 (yF l id).kind), .v (.string (yF l id).name), .v (.int .i64 base), .v (.int .i64 (yF l id).next), .sl 2 (encP (yF l id).props)]) rfl hg134 (by omega) rfl (.one rfl) Try.sizeOf3 rfl (by repeat (first | exact UpdR.here _ | apply UpdR.there)) hx (by repeat (first | exact PutR.nil _ | apply PutR.here | apply PutR.skip)) ?_; refine TL.indexRow Ty.sl22 rfl rfl (by repeat (first | exact List.Mem.head _ | apply List.Mem.tail)) (by omega) (by rw [List.length_set]; omega) rfl (fun g136 hg136 => ?_); refine TL.run1 (pure_fieldAddr_own Ty.f28_5 rfl) rfl ?_; refine TL.storeRow (es := 6) (i := (findS l id).toNat) (o := 5) (c' := (encSt (rebT l id base))) rfl hg136 (by omega) rfl (.one rfl) Try.sizeOf26 rfl (by repeat (first | exact UpdR.here _ | apply UpdR.there)) (hx1 _) (by repeat (first | exact PutR.nil _ | apply PutR.here | apply PutR.skip)) ?_
            rw [List.set_set, ← rebS_enc]
            refine TL.nil' ?_; refine TC.seq ?_; refine TC.rowOne (by repeat (first | exact List.Mem.head _ | apply List.Mem.tail)) (fun hv24 => ?_); refine TC.region ?_; refine TL.run1 (pure_move rfl) rfl ?_; refine TL.store rfl rfl (.one (by first | rfl | assumption)) Try.sizeOf22 rfl (by repeat (first | exact UpdR.here _ | apply UpdR.there)) (by repeat (first | exact PutR.nil _ | apply PutR.here | apply PutR.skip)) ?_; refine TL.store rfl rfl (.one (by first | rfl | assumption)) Try.sizeOf29 rfl (by repeat (first | exact UpdR.here _ | apply UpdR.there)) (by repeat (first | exact PutR.nil _ | apply PutR.here | apply PutR.skip)) ?_; refine TL.nil' ?_; refine TC.ret ?_
            unfold rebV; rw [hE, if_pos rfl]
            exact retF_one2 (.inl rfl) Ty.one22 rfl (by repeat (first | exact List.Mem.head _ | apply List.Mem.tail)) Ty.one29 rfl (by repeat (first | exact List.Mem.head _ | apply List.Mem.tail)) (.tupL (.cons (.rowS (by repeat (first | exact List.Mem.head _ | apply List.Mem.tail)) (by decide) (encSs_each _)) (.cons (.same _) .nil)))
      · skip
        rintro Hc ⟨_, hon, hsub⟩
        refine block_ret ?_; refine then_ret ?_
        have hE : rebE l id base = 16 := by (unfold rebE; rw [if_neg hc33, if_neg hc37, if_pos hon])
        rw [rebV_bad (by rw [hE]; decide), hE]
        exact retF_one2 (.inl rfl) Ty.one22 rfl (hsub.mem (by repeat (first | exact List.Mem.head _ | apply List.Mem.tail))) Ty.one29 rfl (hsub.mem (by repeat (first | exact List.Mem.head _ | apply List.Mem.tail))) (.tupL (.cons (.rowS (e := 28) (xs := []) (hsub.mem (by repeat (first | exact List.Mem.head _ | apply List.Mem.tail))) (by decide) (by simp)) (.cons (.same _) .nil)))
      · skip
        rintro x Hc ⟨he, _⟩
        cases he
end Go.Ob
