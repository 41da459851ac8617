import Derived.Test.YtajklmaaokgecaaK4
set_option linter.unusedVariables false
set_option linter.unusedSimpArgs false
namespace Go.Ob
open Go.Proofs
set_option maxRecDepth 100000 in
theorem Diff_spec (a b : List (Int × Int)) (hla : a.length ≤ 1000000) (hlb : b.length ≤ 1000000) : Fun Try.prog 42 [.sl 2 (encP a), .sl 2 (encP b)] (.sl 5 (encD (diffP a b))) := by
  refine Fun.enterF (n := 57) (rs := [.tmp 4]) Try.func42 rfl Try.ntmps42 Try.results42 rfl (fun w F => ?_)
  refine TC.seq ?_
  refine TC.region ?_
  refine TL.run1 (pure_assign rfl) rfl ?_
  refine TL.nil' ?_
  refine TC.seq ?_
  refine TC.region ?_
  refine TL.alloc Ty.zero61 rfl (fun g5 => ?_)
  refine TL.nil' ?_
  refine TC.seq ?_
  refine TC.seq ?_
  refine TC.nilrow 65 5 ?_
  refine TC.region ?_
  refine TL.run1 (pure_move rfl) rfl ?_
  refine TL.run1 (pure_move rfl) rfl ?_
  refine TL.run1 (pure_call (pairs_spec a b) (.cons rfl (.cons rfl .nil)) Try.call48) rfl ?_
  refine TL.nil' ?_
  refine TC.block ?_
  refine TC.rangeFunc (caps := [.at_ [.sl 2 (encP a)], .at_ [.sl 2 (encP b)]]) (xs := encPairs (pairsL a b)) rfl rfl Try.call60 (pairs_seq a b (by omega) (by omega)) (fun k H => ∃ v, List.Sublist [Blk.row v 65 5 (encD (diffTo ((pairsL a b).take k))), .box g5 61 [.v v]] H) (fun _ _ => False) ⟨_, List.Sublist.refl _⟩ ?_ (by rfl) ?_ ?_ ?_ ?_
  · skip
    intro x hx
    simp only [encPairs, List.mem_map] at hx
    obtain ⟨p, _, rfl⟩ := hx
    rfl
  · skip
    rintro k x Hc w F S l hx ⟨v, hsub⟩
    refine TC.forget (fun _ _ h => h) hsub ?_
    obtain ⟨⟨ox, oy⟩, hp, rfl⟩ := encPairs_get hx
    have hsm := pairs_some a b _ (List.mem_of_getElem? hp)
    have hpl := pairsL_len a b
    have hkl := (List.getElem?_eq_some_iff.1 hp).1
    dsimp only at hsm
    have hkm := encD_len (diffTo ((pairsL a b).take k))
    have htm : (diffTo ((pairsL a b).take k)).length ≤ k := Nat.le_trans (diffTo_len _) (by rw [List.length_take]; omega)
    refine TC.seq ?_
    refine TC.region ?_
    refine TL.run1 (pure_assign rfl) rfl ?_
    refine TL.nil' ?_
    refine TC.region ?_
    refine TL.run1 (pure_assign rfl) rfl ?_
    refine TL.nil ?_
    refine ⟨rfl, fun w F S => ?_⟩
    refine TC.block ?_
    refine TC.seq ?_
    refine TC.region ?_
    refine TL.alloc Ty.zero65 rfl (fun g8 => ?_)
    refine TL.nil' ?_
    refine TC.seq ?_
    refine TC.seq ?_
    refine TC.region ?_
    refine TL.run1 (pure_move rfl) rfl ?_
    refine TL.run1 (pure_neq_encO Try.underlying79 rfl rfl) rfl ?_
    refine TL.nil' ?_
    first | refine TC.condD rfl (fun hc15 => ?_) (fun hc15 => ?_) | refine TC.condN rfl (fun hc15 => ?_) (fun hc15 => ?_) | refine TC.cond rfl (fun hc15 => ?_) (fun hc15 => ?_)
    · try dsimp only at hc15
      obtain ⟨x, rfl⟩ := Option.isSome_iff_exists.1 hc15
      refine TC.drawStore 9 [.box g8 65 [.v (.int .i64 x.1), .v (.int .i64 0), .v (.int .i64 0), .v (.bool false), .v (.bool false)], .row v 65 5 (encD (diffTo ((pairsL a b).take k))), .box g5 61 [.v v]] [.row v 65 5 (encD (diffTo ((pairsL a b).take k))), .box g5 61 [.v v]] [.box g8 65 [.v (.int .i64 0), .v (.int .i64 0), .v (.int .i64 0), .v (.bool false), .v (.bool false)]] [.box g8 65 [.v (.int .i64 x.1), .v (.int .i64 0), .v (.int .i64 0), .v (.bool false), .v (.bool false)]] Ty.follows rfl rfl (by kernel_rfl) (by kernel_rfl) (by kernel_rfl) (.right (SplitR.all _)) (.right (SplitR.all _)) (fun e => e 24 = some (.v (.pointer (some ⟨g8, 0, none⟩))) ∧ e 19 = some (.v (.int .i64 x.1)))
        (fun env envF hq hx a w next Q' hs hn => hs.store_wp (by rw [hx _ (by simp [Op.operands])]; exact hq.1) (by rw [hx _ (by simp [Op.operands])]; exact hq.2) (.one rfl) Try.sizeOf3 rfl (by repeat (first | exact UpdR.here _ | apply UpdR.there)) (by repeat (first | exact PutR.nil _ | apply PutR.here | apply PutR.skip)) hn) ?_
      simp only [List.take_succ_cons, List.take_zero, List.drop_succ_cons, List.drop_zero]
      refine TD.run1 (pure_move rfl) rfl ?_
      first | refine TD.run1 (pure_nilCheck rfl) rfl ?_ | refine TD.run1 (pure_nilCheck_own rfl) rfl ?_
      first | refine TD.run1 (pure_fieldAddr Ty.f59_0 rfl (.zero _) (List.cons_ne_nil _ _)) rfl ?_ | refine TD.run1 (pure_fieldAddr_own Ty.f59_0 rfl) rfl ?_
      first | refine TD.run1 (pure_load1 Ty.one3 rfl) rfl ?_ | refine TD.run1 (pure_load1_own Ty.one3 rfl (by repeat (first | exact List.Mem.head _ | apply List.Mem.tail)) (by repeat (first | exact DropR.zero _ | apply DropR.succ))) rfl ?_
      refine TD.run1 (pure_move rfl) rfl ?_
      first | refine TD.run1 (pure_nilCheck rfl) rfl ?_ | refine TD.run1 (pure_nilCheck_own rfl) rfl ?_
      first | refine TD.run1 (pure_fieldAddr Ty.f59_1 rfl (.succ (.zero _)) (List.cons_ne_nil _ _)) rfl ?_ | refine TD.run1 (pure_fieldAddr_own Ty.f59_1 rfl) rfl ?_
      first | refine TD.run1 (pure_load1 Ty.one3 rfl) rfl ?_ | refine TD.run1 (pure_load1_own Ty.one3 rfl (by repeat (first | exact List.Mem.head _ | apply List.Mem.tail)) (by repeat (first | exact DropR.zero _ | apply DropR.succ))) rfl ?_
      first | refine TD.run1 (pure_fieldAddr Ty.f65_0 rfl (.zero _) (List.cons_ne_nil _ _)) rfl ?_ | refine TD.run1 (pure_fieldAddr_own Ty.f65_0 rfl) rfl ?_
      refine TD.nil ⟨⟨rfl, rfl⟩, ?_⟩
      first | refine TL.run1 (pure_fieldAddr Ty.f65_1 rfl (.succ (.zero _)) (List.cons_ne_nil _ _)) rfl ?_ | refine TL.run1 (pure_fieldAddr_own Ty.f65_1 rfl) rfl ?_
      refine TL.store rfl rfl (.one (by first | rfl | assumption)) Try.sizeOf3 rfl (by repeat (first | exact UpdR.here _ | apply UpdR.there)) (by repeat (first | exact PutR.nil _ | apply PutR.here | apply PutR.skip)) ?_
      first | refine TL.run1 (pure_fieldAddr Ty.f65_3 rfl (.succ (.succ (.succ (.zero _)))) (List.cons_ne_nil _ _)) rfl ?_ | refine TL.run1 (pure_fieldAddr_own Ty.f65_3 rfl) rfl ?_
      refine TL.store rfl rfl (.one (by first | rfl | assumption)) Try.sizeOf4 rfl (by repeat (first | exact UpdR.here _ | apply UpdR.there)) (by repeat (first | exact PutR.nil _ | apply PutR.here | apply PutR.skip)) ?_
      refine TL.nil' ?_
      refine TC.seq ?_
      refine TC.seq ?_
      refine TC.region ?_
      refine TL.run1 (pure_move rfl) rfl ?_
      refine TL.run1 (pure_neq_encO Try.underlying79 rfl rfl) rfl ?_
      refine TL.nil' ?_
      first | refine TC.condD rfl (fun hc28 => ?_) (fun hc28 => ?_) | refine TC.condN rfl (fun hc28 => ?_) (fun hc28 => ?_) | refine TC.cond rfl (fun hc28 => ?_) (fun hc28 => ?_)
      · try dsimp only at hc28
        obtain ⟨y, rfl⟩ := Option.isSome_iff_exists.1 hc28
        refine TC.drawStore 9 [.box g8 65 [.v (.int .i64 y.1), .v (.int .i64 x.2), .v (.int .i64 0), .v (.bool true), .v (.bool false)], .row v 65 5 (encD (diffTo ((pairsL a b).take k))), .box g5 61 [.v v]] [.row v 65 5 (encD (diffTo ((pairsL a b).take k))), .box g5 61 [.v v]] [.box g8 65 [.v (.int .i64 x.1), .v (.int .i64 x.2), .v (.int .i64 0), .v (.bool true), .v (.bool false)]] [.box g8 65 [.v (.int .i64 y.1), .v (.int .i64 x.2), .v (.int .i64 0), .v (.bool true), .v (.bool false)]] Ty.follows rfl rfl (by kernel_rfl) (by kernel_rfl) (by kernel_rfl) (.right (SplitR.all _)) (.right (SplitR.all _)) (fun e => e 37 = some (.v (.pointer (some ⟨g8, 0, none⟩))) ∧ e 32 = some (.v (.int .i64 y.1)))
          (fun env envF hq hx a w next Q' hs hn => hs.store_wp (by rw [hx _ (by simp [Op.operands])]; exact hq.1) (by rw [hx _ (by simp [Op.operands])]; exact hq.2) (.one rfl) Try.sizeOf3 rfl (by repeat (first | exact UpdR.here _ | apply UpdR.there)) (by repeat (first | exact PutR.nil _ | apply PutR.here | apply PutR.skip)) hn) ?_
        simp only [List.take_succ_cons, List.take_zero, List.drop_succ_cons, List.drop_zero]
        refine TD.run1 (pure_move rfl) rfl ?_
        first | refine TD.run1 (pure_nilCheck rfl) rfl ?_ | refine TD.run1 (pure_nilCheck_own rfl) rfl ?_
        first | refine TD.run1 (pure_fieldAddr Ty.f59_0 rfl (.zero _) (List.cons_ne_nil _ _)) rfl ?_ | refine TD.run1 (pure_fieldAddr_own Ty.f59_0 rfl) rfl ?_
        first | refine TD.run1 (pure_load1 Ty.one3 rfl) rfl ?_ | refine TD.run1 (pure_load1_own Ty.one3 rfl (by repeat (first | exact List.Mem.head _ | apply List.Mem.tail)) (by repeat (first | exact DropR.zero _ | apply DropR.succ))) rfl ?_
        refine TD.run1 (pure_move rfl) rfl ?_
        first | refine TD.run1 (pure_nilCheck rfl) rfl ?_ | refine TD.run1 (pure_nilCheck_own rfl) rfl ?_
        first | refine TD.run1 (pure_fieldAddr Ty.f59_1 rfl (.succ (.zero _)) (List.cons_ne_nil _ _)) rfl ?_ | refine TD.run1 (pure_fieldAddr_own Ty.f59_1 rfl) rfl ?_
        first | refine TD.run1 (pure_load1 Ty.one3 rfl) rfl ?_ | refine TD.run1 (pure_load1_own Ty.one3 rfl (by repeat (first | exact List.Mem.head _ | apply List.Mem.tail)) (by repeat (first | exact DropR.zero _ | apply DropR.succ))) rfl ?_
        first | refine TD.run1 (pure_fieldAddr Ty.f65_0 rfl (.zero _) (List.cons_ne_nil _ _)) rfl ?_ | refine TD.run1 (pure_fieldAddr_own Ty.f65_0 rfl) rfl ?_
        refine TD.nil ⟨⟨rfl, rfl⟩, ?_⟩
        first | refine TL.run1 (pure_fieldAddr Ty.f65_2 rfl (.succ (.succ (.zero _))) (List.cons_ne_nil _ _)) rfl ?_ | refine TL.run1 (pure_fieldAddr_own Ty.f65_2 rfl) rfl ?_
        refine TL.store rfl rfl (.one (by first | rfl | assumption)) Try.sizeOf3 rfl (by repeat (first | exact UpdR.here _ | apply UpdR.there)) (by repeat (first | exact PutR.nil _ | apply PutR.here | apply PutR.skip)) ?_
        first | refine TL.run1 (pure_fieldAddr Ty.f65_4 rfl (.succ (.succ (.succ (.succ (.zero _))))) (List.cons_ne_nil _ _)) rfl ?_ | refine TL.run1 (pure_fieldAddr_own Ty.f65_4 rfl) rfl ?_
        refine TL.store rfl rfl (.one (by first | rfl | assumption)) Try.sizeOf4 rfl (by repeat (first | exact UpdR.here _ | apply UpdR.there)) (by repeat (first | exact PutR.nil _ | apply PutR.here | apply PutR.skip)) ?_
        refine TL.nil' ?_
        refine TC.regionCut [40, 41, 42, 43, 44, 45, 46, 47, 48, 49, 50, 51] 51 (x.2 ≠ y.2) ?_ ?_
        · skip
          first | refine TL.run1 (pure_fieldAddr Ty.f65_1 rfl (.succ (.zero _)) (List.cons_ne_nil _ _)) rfl ?_ | refine TL.run1 (pure_fieldAddr_own Ty.f65_1 rfl) rfl ?_
          first | refine TL.run1 (pure_load1 Ty.one3 rfl) rfl ?_ | refine TL.run1 (pure_load1_own Ty.one3 rfl (by repeat (first | exact List.Mem.head _ | apply List.Mem.tail)) (by repeat (first | exact DropR.zero _ | apply DropR.succ))) rfl ?_
          first | refine TL.run1 (pure_fieldAddr Ty.f65_2 rfl (.succ (.succ (.zero _))) (List.cons_ne_nil _ _)) rfl ?_ | refine TL.run1 (pure_fieldAddr_own Ty.f65_2 rfl) rfl ?_
          first | refine TL.run1 (pure_load1 Ty.one3 rfl) rfl ?_ | refine TL.run1 (pure_load1_own Ty.one3 rfl (by repeat (first | exact List.Mem.head _ | apply List.Mem.tail)) (by repeat (first | exact DropR.zero _ | apply DropR.succ))) rfl ?_
          refine TL.run1 (pure_neq rfl rfl) rfl ?_
          refine TL.run1 (pure_move rfl) rfl ?_
          first | refine TL.splitP 45 rfl (fun hg45 => ?_) (fun hg45 => ?_) | refine TL.split 45 rfl (fun hg45 => ?_) (fun hg45 => ?_)
          · try dsimp only at hg45
            refine TL.passG rfl rfl rfl rfl ?_
            refine TL.passG rfl rfl rfl rfl ?_
            refine TL.passG rfl rfl rfl rfl ?_
            refine TL.passG rfl rfl rfl rfl ?_
            refine TL.passG rfl rfl rfl rfl ?_
            refine TL.run1 (pure_pick_true rfl rfl) rfl ?_
            refine TL.cutEnd (by repeat (first | exact Same.refl _ _ | refine Same.put rfl ?_)) rfl ?_
            first | (simp only [decide_eq_true_eq, Bool.false_eq_true, false_iff, true_iff, iff_true, iff_false, Bool.not_eq_true]; omega) | (simp_all; done) | (simp_all; omega) | grind
          · try dsimp only at hg45
            first | refine TL.runG rfl rfl (pure_fieldAddr Ty.f65_3 rfl (.succ (.succ (.succ (.zero _)))) (List.cons_ne_nil _ _)) rfl ?_ | refine TL.runG rfl rfl (pure_fieldAddr_own Ty.f65_3 rfl) rfl ?_
            first | refine TL.runG rfl rfl (pure_load1 Ty.one4 rfl) rfl ?_ | refine TL.runG rfl rfl (pure_load1_own Ty.one4 rfl (by repeat (first | exact List.Mem.head _ | apply List.Mem.tail)) (by repeat (first | exact DropR.zero _ | apply DropR.succ))) rfl ?_
            first | refine TL.runG rfl rfl (pure_fieldAddr Ty.f65_4 rfl (.succ (.succ (.succ (.succ (.zero _))))) (List.cons_ne_nil _ _)) rfl ?_ | refine TL.runG rfl rfl (pure_fieldAddr_own Ty.f65_4 rfl) rfl ?_
            first | refine TL.runG rfl rfl (pure_load1 Ty.one4 rfl) rfl ?_ | refine TL.runG rfl rfl (pure_load1_own Ty.one4 rfl (by repeat (first | exact List.Mem.head _ | apply List.Mem.tail)) (by repeat (first | exact DropR.zero _ | apply DropR.succ))) rfl ?_
            refine TL.runG rfl rfl (pure_neq_bool Try.underlying4 rfl rfl) rfl ?_
            refine TL.run1 (pure_pick_false rfl rfl) rfl ?_
            refine TL.cutEnd (by repeat (first | exact Same.refl _ _ | refine Same.put rfl ?_)) rfl ?_
            first | (simp only [decide_eq_true_eq, Bool.false_eq_true, false_iff, true_iff, iff_true, iff_false, Bool.not_eq_true]; omega) | (simp_all; done) | (simp_all; omega) | grind
        first | refine TC.condD rfl (fun hc51 => ?_) (fun hc51 => ?_) | refine TC.condN rfl (fun hc51 => ?_) (fun hc51 => ?_) | refine TC.cond rfl (fun hc51 => ?_) (fun hc51 => ?_)
        · try dsimp only at hc51
          refine TC.region ?_
          first | refine TL.run1 (pure_load1 Ty.one61 rfl) rfl ?_ | refine TL.run1 (pure_load1_own Ty.one61 rfl (by repeat (first | exact List.Mem.head _ | apply List.Mem.tail)) (by repeat (first | exact DropR.zero _ | apply DropR.succ))) rfl ?_
          first | refine TL.run1 (pure_load Ty.agg65 rfl (.succ (.succ (.succ (.succ (.succ (.zero _))))))) rfl ?_ | refine TL.run1 (pure_load_own Ty.agg65 rfl (by repeat (first | exact List.Mem.head _ | apply List.Mem.tail)) (by repeat (first | exact DropR.zero _ | apply DropR.succ)) (.succ (.succ (.succ (.succ (.succ (.zero _))))))) rfl ?_
          refine TL.run1 (pure_buildSlice (xs := [.tmp 53]) Ty.app61 (by decide) rfl rfl (.cons rfl (.agg _) rfl .nil)) rfl ?_
          refine TL.append Ty.app61 rfl rfl (by intro _; repeat (first | exact UpdR.here _ | apply UpdR.there)) (by simp only [List.length_append, List.length_cons, List.length_nil]; omega) (by simp only [List.length_append, List.length_cons, List.length_nil]; omega) rfl (fun v55 hv55 => ?_)
          refine TL.store rfl rfl (.one (by first | rfl | assumption)) Try.sizeOf61 rfl (by repeat (first | exact UpdR.here _ | apply UpdR.there)) (by repeat (first | exact PutR.nil _ | apply PutR.here | apply PutR.skip)) ?_
          refine TL.nil ?_
          refine block_normal ?_
          exact ⟨_, by rw [diffTo_take hp, if_pos (show keepB (chOf (some x, some y)) = true from by simp only [keepB, chOf, pickP, Option.getD_some, Option.getD_none, Option.isSome_some, Option.isSome_none]; simp_all), encD_snoc]; exact .cons _ (List.Sublist.refl _)⟩
        · try dsimp only at hc51
          refine TC.skip ?_
          refine block_normal ?_
          exact ⟨_, by rw [diffTo_take hp, if_neg (show ¬ keepB (chOf (some x, some y)) = true from by simp only [keepB, chOf, pickP, Option.getD_some, Option.getD_none, Option.isSome_some, Option.isSome_none]; simp_all)]; exact .cons _ (List.Sublist.refl _)⟩
      · try dsimp only at hc28
        obtain rfl : oy = none := by cases oy; rfl; cases hc28
        refine TC.skip' ?_
        refine TC.regionCut [40, 41, 42, 43, 44, 45, 46, 47, 48, 49, 50, 51] 51 (True) ?_ ?_
        · skip
          first | refine TL.run1 (pure_fieldAddr Ty.f65_1 rfl (.succ (.zero _)) (List.cons_ne_nil _ _)) rfl ?_ | refine TL.run1 (pure_fieldAddr_own Ty.f65_1 rfl) rfl ?_
          first | refine TL.run1 (pure_load1 Ty.one3 rfl) rfl ?_ | refine TL.run1 (pure_load1_own Ty.one3 rfl (by repeat (first | exact List.Mem.head _ | apply List.Mem.tail)) (by repeat (first | exact DropR.zero _ | apply DropR.succ))) rfl ?_
          first | refine TL.run1 (pure_fieldAddr Ty.f65_2 rfl (.succ (.succ (.zero _))) (List.cons_ne_nil _ _)) rfl ?_ | refine TL.run1 (pure_fieldAddr_own Ty.f65_2 rfl) rfl ?_
          first | refine TL.run1 (pure_load1 Ty.one3 rfl) rfl ?_ | refine TL.run1 (pure_load1_own Ty.one3 rfl (by repeat (first | exact List.Mem.head _ | apply List.Mem.tail)) (by repeat (first | exact DropR.zero _ | apply DropR.succ))) rfl ?_
          refine TL.run1 (pure_neq rfl rfl) rfl ?_
          refine TL.run1 (pure_move rfl) rfl ?_
          first | refine TL.splitP 45 rfl (fun hg45 => ?_) (fun hg45 => ?_) | refine TL.split 45 rfl (fun hg45 => ?_) (fun hg45 => ?_)
          · try dsimp only at hg45
            refine TL.passG rfl rfl rfl rfl ?_
            refine TL.passG rfl rfl rfl rfl ?_
            refine TL.passG rfl rfl rfl rfl ?_
            refine TL.passG rfl rfl rfl rfl ?_
            refine TL.passG rfl rfl rfl rfl ?_
            refine TL.run1 (pure_pick_true rfl rfl) rfl ?_
            refine TL.cutEnd (by repeat (first | exact Same.refl _ _ | refine Same.put rfl ?_)) rfl ?_
            first | (simp only [decide_eq_true_eq, Bool.false_eq_true, false_iff, true_iff, iff_true, iff_false, Bool.not_eq_true]; omega) | (simp_all; done) | (simp_all; omega) | grind
          · try dsimp only at hg45
            first | refine TL.runG rfl rfl (pure_fieldAddr Ty.f65_3 rfl (.succ (.succ (.succ (.zero _)))) (List.cons_ne_nil _ _)) rfl ?_ | refine TL.runG rfl rfl (pure_fieldAddr_own Ty.f65_3 rfl) rfl ?_
            first | refine TL.runG rfl rfl (pure_load1 Ty.one4 rfl) rfl ?_ | refine TL.runG rfl rfl (pure_load1_own Ty.one4 rfl (by repeat (first | exact List.Mem.head _ | apply List.Mem.tail)) (by repeat (first | exact DropR.zero _ | apply DropR.succ))) rfl ?_
            first | refine TL.runG rfl rfl (pure_fieldAddr Ty.f65_4 rfl (.succ (.succ (.succ (.succ (.zero _))))) (List.cons_ne_nil _ _)) rfl ?_ | refine TL.runG rfl rfl (pure_fieldAddr_own Ty.f65_4 rfl) rfl ?_
            first | refine TL.runG rfl rfl (pure_load1 Ty.one4 rfl) rfl ?_ | refine TL.runG rfl rfl (pure_load1_own Ty.one4 rfl (by repeat (first | exact List.Mem.head _ | apply List.Mem.tail)) (by repeat (first | exact DropR.zero _ | apply DropR.succ))) rfl ?_
            refine TL.runG rfl rfl (pure_neq_bool Try.underlying4 rfl rfl) rfl ?_
            refine TL.run1 (pure_pick_false rfl rfl) rfl ?_
            refine TL.cutEnd (by repeat (first | exact Same.refl _ _ | refine Same.put rfl ?_)) rfl ?_
            first | (simp only [decide_eq_true_eq, Bool.false_eq_true, false_iff, true_iff, iff_true, iff_false, Bool.not_eq_true]; omega) | (simp_all; done) | (simp_all; omega) | grind
        first | refine TC.condD rfl (fun hc51 => ?_) (fun hc51 => ?_) | refine TC.condN rfl (fun hc51 => ?_) (fun hc51 => ?_) | refine TC.cond rfl (fun hc51 => ?_) (fun hc51 => ?_)
        · try dsimp only at hc51
          refine TC.region ?_
          first | refine TL.run1 (pure_load1 Ty.one61 rfl) rfl ?_ | refine TL.run1 (pure_load1_own Ty.one61 rfl (by repeat (first | exact List.Mem.head _ | apply List.Mem.tail)) (by repeat (first | exact DropR.zero _ | apply DropR.succ))) rfl ?_
          first | refine TL.run1 (pure_load Ty.agg65 rfl (.succ (.succ (.succ (.succ (.succ (.zero _))))))) rfl ?_ | refine TL.run1 (pure_load_own Ty.agg65 rfl (by repeat (first | exact List.Mem.head _ | apply List.Mem.tail)) (by repeat (first | exact DropR.zero _ | apply DropR.succ)) (.succ (.succ (.succ (.succ (.succ (.zero _))))))) rfl ?_
          refine TL.run1 (pure_buildSlice (xs := [.tmp 53]) Ty.app61 (by decide) rfl rfl (.cons rfl (.agg _) rfl .nil)) rfl ?_
          refine TL.append Ty.app61 rfl rfl (by intro _; repeat (first | exact UpdR.here _ | apply UpdR.there)) (by simp only [List.length_append, List.length_cons, List.length_nil]; omega) (by simp only [List.length_append, List.length_cons, List.length_nil]; omega) rfl (fun v55 hv55 => ?_)
          refine TL.store rfl rfl (.one (by first | rfl | assumption)) Try.sizeOf61 rfl (by repeat (first | exact UpdR.here _ | apply UpdR.there)) (by repeat (first | exact PutR.nil _ | apply PutR.here | apply PutR.skip)) ?_
          refine TL.nil ?_
          refine block_normal ?_
          exact ⟨_, by rw [diffTo_take hp, if_pos (show keepB (chOf (some x, none)) = true from by simp only [keepB, chOf, pickP, Option.getD_some, Option.getD_none, Option.isSome_some, Option.isSome_none]; simp_all), encD_snoc]; exact .cons _ (List.Sublist.refl _)⟩
        · try dsimp only at hc51
          exact absurd trivial hc51
    · try dsimp only at hc15
      obtain rfl : ox = none := by cases ox; rfl; cases hc15
      refine TC.skip' ?_
      refine TC.seq ?_
      refine TC.seq ?_
      refine TC.region ?_
      refine TL.run1 (pure_move rfl) rfl ?_
      refine TL.run1 (pure_neq_encO Try.underlying79 rfl rfl) rfl ?_
      refine TL.nil' ?_
      first | refine TC.condD rfl (fun hc28 => ?_) (fun hc28 => ?_) | refine TC.condN rfl (fun hc28 => ?_) (fun hc28 => ?_) | refine TC.cond rfl (fun hc28 => ?_) (fun hc28 => ?_)
      · try dsimp only at hc28
        obtain ⟨y, rfl⟩ := Option.isSome_iff_exists.1 hc28
        refine TC.drawStore 9 [.box g8 65 [.v (.int .i64 y.1), .v (.int .i64 0), .v (.int .i64 0), .v (.bool false), .v (.bool false)], .row v 65 5 (encD (diffTo ((pairsL a b).take k))), .box g5 61 [.v v]] [.row v 65 5 (encD (diffTo ((pairsL a b).take k))), .box g5 61 [.v v]] [.box g8 65 [.v (.int .i64 0), .v (.int .i64 0), .v (.int .i64 0), .v (.bool false), .v (.bool false)]] [.box g8 65 [.v (.int .i64 y.1), .v (.int .i64 0), .v (.int .i64 0), .v (.bool false), .v (.bool false)]] Ty.follows rfl rfl (by kernel_rfl) (by kernel_rfl) (by kernel_rfl) (.right (SplitR.all _)) (.right (SplitR.all _)) (fun e => e 37 = some (.v (.pointer (some ⟨g8, 0, none⟩))) ∧ e 32 = some (.v (.int .i64 y.1)))
          (fun env envF hq hx a w next Q' hs hn => hs.store_wp (by rw [hx _ (by simp [Op.operands])]; exact hq.1) (by rw [hx _ (by simp [Op.operands])]; exact hq.2) (.one rfl) Try.sizeOf3 rfl (by repeat (first | exact UpdR.here _ | apply UpdR.there)) (by repeat (first | exact PutR.nil _ | apply PutR.here | apply PutR.skip)) hn) ?_
        simp only [List.take_succ_cons, List.take_zero, List.drop_succ_cons, List.drop_zero]
        refine TD.run1 (pure_move rfl) rfl ?_
        first | refine TD.run1 (pure_nilCheck rfl) rfl ?_ | refine TD.run1 (pure_nilCheck_own rfl) rfl ?_
        first | refine TD.run1 (pure_fieldAddr Ty.f59_0 rfl (.zero _) (List.cons_ne_nil _ _)) rfl ?_ | refine TD.run1 (pure_fieldAddr_own Ty.f59_0 rfl) rfl ?_
        first | refine TD.run1 (pure_load1 Ty.one3 rfl) rfl ?_ | refine TD.run1 (pure_load1_own Ty.one3 rfl (by repeat (first | exact List.Mem.head _ | apply List.Mem.tail)) (by repeat (first | exact DropR.zero _ | apply DropR.succ))) rfl ?_
        refine TD.run1 (pure_move rfl) rfl ?_
        first | refine TD.run1 (pure_nilCheck rfl) rfl ?_ | refine TD.run1 (pure_nilCheck_own rfl) rfl ?_
        first | refine TD.run1 (pure_fieldAddr Ty.f59_1 rfl (.succ (.zero _)) (List.cons_ne_nil _ _)) rfl ?_ | refine TD.run1 (pure_fieldAddr_own Ty.f59_1 rfl) rfl ?_
        first | refine TD.run1 (pure_load1 Ty.one3 rfl) rfl ?_ | refine TD.run1 (pure_load1_own Ty.one3 rfl (by repeat (first | exact List.Mem.head _ | apply List.Mem.tail)) (by repeat (first | exact DropR.zero _ | apply DropR.succ))) rfl ?_
        first | refine TD.run1 (pure_fieldAddr Ty.f65_0 rfl (.zero _) (List.cons_ne_nil _ _)) rfl ?_ | refine TD.run1 (pure_fieldAddr_own Ty.f65_0 rfl) rfl ?_
        refine TD.nil ⟨⟨rfl, rfl⟩, ?_⟩
        first | refine TL.run1 (pure_fieldAddr Ty.f65_2 rfl (.succ (.succ (.zero _))) (List.cons_ne_nil _ _)) rfl ?_ | refine TL.run1 (pure_fieldAddr_own Ty.f65_2 rfl) rfl ?_
        refine TL.store rfl rfl (.one (by first | rfl | assumption)) Try.sizeOf3 rfl (by repeat (first | exact UpdR.here _ | apply UpdR.there)) (by repeat (first | exact PutR.nil _ | apply PutR.here | apply PutR.skip)) ?_
        first | refine TL.run1 (pure_fieldAddr Ty.f65_4 rfl (.succ (.succ (.succ (.succ (.zero _))))) (List.cons_ne_nil _ _)) rfl ?_ | refine TL.run1 (pure_fieldAddr_own Ty.f65_4 rfl) rfl ?_
        refine TL.store rfl rfl (.one (by first | rfl | assumption)) Try.sizeOf4 rfl (by repeat (first | exact UpdR.here _ | apply UpdR.there)) (by repeat (first | exact PutR.nil _ | apply PutR.here | apply PutR.skip)) ?_
        refine TL.nil' ?_
        refine TC.regionCut [40, 41, 42, 43, 44, 45, 46, 47, 48, 49, 50, 51] 51 (True) ?_ ?_
        · skip
          first | refine TL.run1 (pure_fieldAddr Ty.f65_1 rfl (.succ (.zero _)) (List.cons_ne_nil _ _)) rfl ?_ | refine TL.run1 (pure_fieldAddr_own Ty.f65_1 rfl) rfl ?_
          first | refine TL.run1 (pure_load1 Ty.one3 rfl) rfl ?_ | refine TL.run1 (pure_load1_own Ty.one3 rfl (by repeat (first | exact List.Mem.head _ | apply List.Mem.tail)) (by repeat (first | exact DropR.zero _ | apply DropR.succ))) rfl ?_
          first | refine TL.run1 (pure_fieldAddr Ty.f65_2 rfl (.succ (.succ (.zero _))) (List.cons_ne_nil _ _)) rfl ?_ | refine TL.run1 (pure_fieldAddr_own Ty.f65_2 rfl) rfl ?_
          first | refine TL.run1 (pure_load1 Ty.one3 rfl) rfl ?_ | refine TL.run1 (pure_load1_own Ty.one3 rfl (by repeat (first | exact List.Mem.head _ | apply List.Mem.tail)) (by repeat (first | exact DropR.zero _ | apply DropR.succ))) rfl ?_
          refine TL.run1 (pure_neq rfl rfl) rfl ?_
          refine TL.run1 (pure_move rfl) rfl ?_
          first | refine TL.splitP 45 rfl (fun hg45 => ?_) (fun hg45 => ?_) | refine TL.split 45 rfl (fun hg45 => ?_) (fun hg45 => ?_)
          · try dsimp only at hg45
            refine TL.passG rfl rfl rfl rfl ?_
            refine TL.passG rfl rfl rfl rfl ?_
            refine TL.passG rfl rfl rfl rfl ?_
            refine TL.passG rfl rfl rfl rfl ?_
            refine TL.passG rfl rfl rfl rfl ?_
            refine TL.run1 (pure_pick_true rfl rfl) rfl ?_
            refine TL.cutEnd (by repeat (first | exact Same.refl _ _ | refine Same.put rfl ?_)) rfl ?_
            first | (simp only [decide_eq_true_eq, Bool.false_eq_true, false_iff, true_iff, iff_true, iff_false, Bool.not_eq_true]; omega) | (simp_all; done) | (simp_all; omega) | grind
          · try dsimp only at hg45
            first | refine TL.runG rfl rfl (pure_fieldAddr Ty.f65_3 rfl (.succ (.succ (.succ (.zero _)))) (List.cons_ne_nil _ _)) rfl ?_ | refine TL.runG rfl rfl (pure_fieldAddr_own Ty.f65_3 rfl) rfl ?_
            first | refine TL.runG rfl rfl (pure_load1 Ty.one4 rfl) rfl ?_ | refine TL.runG rfl rfl (pure_load1_own Ty.one4 rfl (by repeat (first | exact List.Mem.head _ | apply List.Mem.tail)) (by repeat (first | exact DropR.zero _ | apply DropR.succ))) rfl ?_
            first | refine TL.runG rfl rfl (pure_fieldAddr Ty.f65_4 rfl (.succ (.succ (.succ (.succ (.zero _))))) (List.cons_ne_nil _ _)) rfl ?_ | refine TL.runG rfl rfl (pure_fieldAddr_own Ty.f65_4 rfl) rfl ?_
            first | refine TL.runG rfl rfl (pure_load1 Ty.one4 rfl) rfl ?_ | refine TL.runG rfl rfl (pure_load1_own Ty.one4 rfl (by repeat (first | exact List.Mem.head _ | apply List.Mem.tail)) (by repeat (first | exact DropR.zero _ | apply DropR.succ))) rfl ?_
            refine TL.runG rfl rfl (pure_neq_bool Try.underlying4 rfl rfl) rfl ?_
            refine TL.run1 (pure_pick_false rfl rfl) rfl ?_
            refine TL.cutEnd (by repeat (first | exact Same.refl _ _ | refine Same.put rfl ?_)) rfl ?_
            first | (simp only [decide_eq_true_eq, Bool.false_eq_true, false_iff, true_iff, iff_true, iff_false, Bool.not_eq_true]; omega) | (simp_all; done) | (simp_all; omega) | grind
        first | refine TC.condD rfl (fun hc51 => ?_) (fun hc51 => ?_) | refine TC.condN rfl (fun hc51 => ?_) (fun hc51 => ?_) | refine TC.cond rfl (fun hc51 => ?_) (fun hc51 => ?_)
        · try dsimp only at hc51
          refine TC.region ?_
          first | refine TL.run1 (pure_load1 Ty.one61 rfl) rfl ?_ | refine TL.run1 (pure_load1_own Ty.one61 rfl (by repeat (first | exact List.Mem.head _ | apply List.Mem.tail)) (by repeat (first | exact DropR.zero _ | apply DropR.succ))) rfl ?_
          first | refine TL.run1 (pure_load Ty.agg65 rfl (.succ (.succ (.succ (.succ (.succ (.zero _))))))) rfl ?_ | refine TL.run1 (pure_load_own Ty.agg65 rfl (by repeat (first | exact List.Mem.head _ | apply List.Mem.tail)) (by repeat (first | exact DropR.zero _ | apply DropR.succ)) (.succ (.succ (.succ (.succ (.succ (.zero _))))))) rfl ?_
          refine TL.run1 (pure_buildSlice (xs := [.tmp 53]) Ty.app61 (by decide) rfl rfl (.cons rfl (.agg _) rfl .nil)) rfl ?_
          refine TL.append Ty.app61 rfl rfl (by intro _; repeat (first | exact UpdR.here _ | apply UpdR.there)) (by simp only [List.length_append, List.length_cons, List.length_nil]; omega) (by simp only [List.length_append, List.length_cons, List.length_nil]; omega) rfl (fun v55 hv55 => ?_)
          refine TL.store rfl rfl (.one (by first | rfl | assumption)) Try.sizeOf61 rfl (by repeat (first | exact UpdR.here _ | apply UpdR.there)) (by repeat (first | exact PutR.nil _ | apply PutR.here | apply PutR.skip)) ?_
          refine TL.nil ?_
          refine block_normal ?_
          exact ⟨_, by rw [diffTo_take hp, if_pos (show keepB (chOf (none, some y)) = true from by simp only [keepB, chOf, pickP, Option.getD_some, Option.getD_none, Option.isSome_some, Option.isSome_none]; simp_all), encD_snoc]; exact .cons _ (List.Sublist.refl _)⟩
        · try dsimp only at hc51
          exact absurd trivial hc51
      · try dsimp only at hc28
        obtain rfl : oy = none := by cases oy; rfl; cases hc28
        exfalso; simp at hsm
  · skip
    rintro Hc ⟨v, hsub⟩
    refine block_normal ?_
    refine then_normal ?_
    refine TC.seq ?_
    refine TC.forget (fun _ _ h => h) hsub ?_
    refine TC.region ?_
    first | refine TL.run1 (pure_load1 Ty.one61 rfl) rfl ?_ | refine TL.run1 (pure_load1_own Ty.one61 rfl (by repeat (first | exact List.Mem.head _ | apply List.Mem.tail)) (by repeat (first | exact DropR.zero _ | apply DropR.succ))) rfl ?_
    refine TL.run1 (pure_assign rfl) rfl ?_
    refine TL.nil' ?_
    refine TC.ret ?_
    exact retF_row rfl (by repeat (first | exact List.Mem.head _ | apply List.Mem.tail)) (by decide) (encD_each _) (by rw [List.take_of_length_le (by simp [encPairs])]; rfl)
  · skip
    first | exact fun _ h => h.elim | exact fun _ _ h => h.elim
  · skip
    first | exact fun _ h => h.elim | exact fun _ _ h => h.elim

theorem mergeK : mergeP [(2, 1), (5, 24)] [(5, 20), (21, 3)] = [((2 : Int), (1 : Int)), (5, 20), (21, 3)] := by simp [mergeP, pairsL, pickP]
theorem diffK : diffP [(2, 1)] [(5, 24)] = [(⟨2, 1, 0, true, false⟩ : Ch), ⟨5, 0, 24, false, true⟩] := by simp [diffP, pairsL, diffTo, chOf, pickP, keepB]
theorem checkK : checkP 1 [(21, 3)] = 4 := by decide
theorem MergeK : Fun Try.prog 21 [.sl 2 (encP [(2, 1), (5, 24)]), .sl 2 (encP [(5, 20), (21, 3)])] (.sl 2 (encP [((2 : Int), (1 : Int)), (5, 20), (21, 3)])) := mergeK ▸ Merge_spec _ _ (by decide) (by decide)
theorem DiffK : Fun Try.prog 42 [.sl 2 (encP [(2, 1)]), .sl 2 (encP [(5, 24)])] (.sl 5 (encD [(⟨2, 1, 0, true, false⟩ : Ch), ⟨5, 0, 24, false, true⟩])) := diffK ▸ Diff_spec _ _ (by decide) (by decide)
theorem CheckK : Fun Try.prog 18 [.v (.int .i64 1), .sl 2 (encP [(21, 3)])] (.v (.int .i64 4)) := checkK ▸ Check_spec 1 _ (by decide)
set_option maxRecDepth 100000 in
theorem known_spec  : Fun Try.prog 14 [] (.v (.bool true)) := by
  refine Fun.enter (n := 64) (rs := [.tmp 0]) Try.func14 rfl Try.ntmps14 Try.results14 rfl (fun w F => ?_)
  refine TC.seq ?_
  refine TC.region ?_
  refine TL.run1 (pure_assign rfl) rfl ?_
  refine TL.nil' ?_
  refine TC.seq ?_
  refine TC.region ?_
  refine TL.run1 (pure_build Ty.pl59 Ty.zero59 (.cons rfl rfl (.one rfl) rfl (.here (.nil _)) (.cons rfl rfl (.one rfl) rfl (.skip (.here (.nil _))) (.nil _)))) rfl ?_
  refine TL.run1 (pure_build Ty.pl59 Ty.zero59 (.cons rfl rfl (.one rfl) rfl (.here (.nil _)) (.cons rfl rfl (.one rfl) rfl (.skip (.here (.nil _))) (.nil _)))) rfl ?_
  refine TL.run1 (pure_buildSlice (xs := [.tmp 3, .tmp 4]) Ty.app31 (by decide) rfl rfl (.cons rfl (.agg _) rfl (.cons rfl (.agg _) rfl .nil))) rfl ?_
  refine TL.run1 (pure_build Ty.pl59 Ty.zero59 (.cons rfl rfl (.one rfl) rfl (.here (.nil _)) (.cons rfl rfl (.one rfl) rfl (.skip (.here (.nil _))) (.nil _)))) rfl ?_
  refine TL.run1 (pure_build Ty.pl59 Ty.zero59 (.cons rfl rfl (.one rfl) rfl (.here (.nil _)) (.cons rfl rfl (.one rfl) rfl (.skip (.here (.nil _))) (.nil _)))) rfl ?_
  refine TL.run1 (pure_buildSlice (xs := [.tmp 6, .tmp 7]) Ty.app31 (by decide) rfl rfl (.cons rfl (.agg _) rfl (.cons rfl (.agg _) rfl .nil))) rfl ?_
  refine TL.run1 (pure_call (MergeK) (.cons rfl (.cons rfl .nil)) Try.call21) rfl ?_
  refine TL.run1 (pure_assign rfl) rfl ?_
  refine TL.nil' ?_
  refine TC.seq ?_
  refine TC.region ?_
  refine TL.run1 (pure_build Ty.pl59 Ty.zero59 (.cons rfl rfl (.one rfl) rfl (.here (.nil _)) (.cons rfl rfl (.one rfl) rfl (.skip (.here (.nil _))) (.nil _)))) rfl ?_
  refine TL.run1 (pure_buildSlice (xs := [.tmp 10]) Ty.app31 (by decide) rfl rfl (.cons rfl (.agg _) rfl .nil)) rfl ?_
  refine TL.run1 (pure_build Ty.pl59 Ty.zero59 (.cons rfl rfl (.one rfl) rfl (.here (.nil _)) (.cons rfl rfl (.one rfl) rfl (.skip (.here (.nil _))) (.nil _)))) rfl ?_
  refine TL.run1 (pure_buildSlice (xs := [.tmp 12]) Ty.app31 (by decide) rfl rfl (.cons rfl (.agg _) rfl .nil)) rfl ?_
  refine TL.run1 (pure_call (DiffK) (.cons rfl (.cons rfl .nil)) Try.call42) rfl ?_
  refine TL.run1 (pure_assign rfl) rfl ?_
  refine TL.nil' ?_
  have hln : (encP [((2 : Int), (1 : Int)), (5, 20), (21, 3)]).length = 3 := rfl
  have hdn : (encD [(⟨2, 1, 0, true, false⟩ : Ch), ⟨5, 0, 24, false, true⟩]).length = 2 := rfl
  have hr0 : (encP [((2 : Int), (1 : Int)), (5, 20), (21, 3)])[(0 : Int).toNat]? = some [.v (.int .i64 2), .v (.int .i64 1)] := rfl
  have hr1 : (encP [((2 : Int), (1 : Int)), (5, 20), (21, 3)])[(1 : Int).toNat]? = some [.v (.int .i64 5), .v (.int .i64 20)] := rfl
  have hr2 : (encP [((2 : Int), (1 : Int)), (5, 20), (21, 3)])[(2 : Int).toNat]? = some [.v (.int .i64 21), .v (.int .i64 3)] := rfl
  have hd0 : (encD [(⟨2, 1, 0, true, false⟩ : Ch), ⟨5, 0, 24, false, true⟩])[(0 : Int).toNat]? = some [.v (.int .i64 2), .v (.int .i64 1), .v (.int .i64 0), .v (.bool true), .v (.bool false)] := rfl
  have hd1 : (encD [(⟨2, 1, 0, true, false⟩ : Ch), ⟨5, 0, 24, false, true⟩])[(1 : Int).toNat]? = some [.v (.int .i64 5), .v (.int .i64 0), .v (.int .i64 24), .v (.bool false), .v (.bool true)] := rfl
  refine TC.regionCut [15, 16, 17, 18, 19, 20, 21, 22, 23, 24, 25, 26, 27, 28, 29, 30, 31, 32, 33, 34, 35, 36, 37, 38, 39, 40, 41, 42, 43, 44, 45, 46, 47, 48, 49, 50, 51, 52, 53, 54, 55, 56, 57, 58, 59, 60, 61, 62, 63, 0] 0 (True) ?_ ?_
  · skip
    refine TL.run1 (pure_move rfl) rfl ?_
    first | refine TL.run1 (pure_len Ty.sl31 rfl) rfl ?_ | refine TL.run1 (pure_len_row Ty.sl31 rfl (by repeat (first | exact List.Mem.head _ | apply List.Mem.tail))) rfl ?_ | refine TL.run1 (pure_len_nil Ty.sl31 rfl) rfl ?_
    refine TL.run1 (pure_eql rfl rfl) rfl ?_
    refine TL.run1 (pure_move rfl) rfl ?_
    first | refine TL.splitP 18 rfl (fun hg18 => ?_) (fun hg18 => ?_) | refine TL.split 18 rfl (fun hg18 => ?_) (fun hg18 => ?_)
    · try dsimp only at hg18
      refine TL.runG rfl rfl (pure_move rfl) rfl ?_
      refine TL.runG rfl rfl (pure_indexAddr Ty.sl31 rfl rfl (by omega) (by assumption) (List.cons_ne_nil _ _)) rfl ?_
      first | refine TL.runG rfl rfl (pure_load Ty.agg59 rfl (.succ (.succ (.zero _)))) rfl ?_ | refine TL.runG rfl rfl (pure_load_own Ty.agg59 rfl (by repeat (first | exact List.Mem.head _ | apply List.Mem.tail)) (by repeat (first | exact DropR.zero _ | apply DropR.succ)) (.succ (.succ (.zero _)))) rfl ?_
      refine TL.runG rfl rfl (pure_build Ty.pl59 Ty.zero59 (.cons rfl rfl (.one rfl) rfl (.here (.nil _)) (.cons rfl rfl (.one rfl) rfl (.skip (.here (.nil _))) (.nil _)))) rfl ?_
      refine TL.runG rfl rfl (pure_eql_agg Ty.eq59 rfl rfl (.cons (.cons .nil)) (.cons (.cons .nil)) rfl rfl) rfl ?_
      refine TL.run1 (pure_pick_true rfl rfl) rfl ?_
      refine TL.run1 (pure_move rfl) rfl ?_
      first | refine TL.splitP 25 rfl (fun hg25 => ?_) (fun hg25 => ?_) | refine TL.split 25 rfl (fun hg25 => ?_) (fun hg25 => ?_)
      · try dsimp only at hg25
        refine TL.runG rfl rfl (pure_move rfl) rfl ?_
        refine TL.runG rfl rfl (pure_indexAddr Ty.sl31 rfl rfl (by omega) (by assumption) (List.cons_ne_nil _ _)) rfl ?_
        first | refine TL.runG rfl rfl (pure_load Ty.agg59 rfl (.succ (.succ (.zero _)))) rfl ?_ | refine TL.runG rfl rfl (pure_load_own Ty.agg59 rfl (by repeat (first | exact List.Mem.head _ | apply List.Mem.tail)) (by repeat (first | exact DropR.zero _ | apply DropR.succ)) (.succ (.succ (.zero _)))) rfl ?_
        refine TL.runG rfl rfl (pure_build Ty.pl59 Ty.zero59 (.cons rfl rfl (.one rfl) rfl (.here (.nil _)) (.cons rfl rfl (.one rfl) rfl (.skip (.here (.nil _))) (.nil _)))) rfl ?_
        refine TL.runG rfl rfl (pure_eql_agg Ty.eq59 rfl rfl (.cons (.cons .nil)) (.cons (.cons .nil)) rfl rfl) rfl ?_
        refine TL.run1 (pure_pick_true rfl rfl) rfl ?_
        refine TL.run1 (pure_move rfl) rfl ?_
        first | refine TL.splitP 32 rfl (fun hg32 => ?_) (fun hg32 => ?_) | refine TL.split 32 rfl (fun hg32 => ?_) (fun hg32 => ?_)
        · try dsimp only at hg32
          refine TL.runG rfl rfl (pure_move rfl) rfl ?_
          refine TL.runG rfl rfl (pure_indexAddr Ty.sl31 rfl rfl (by omega) (by assumption) (List.cons_ne_nil _ _)) rfl ?_
          first | refine TL.runG rfl rfl (pure_load Ty.agg59 rfl (.succ (.succ (.zero _)))) rfl ?_ | refine TL.runG rfl rfl (pure_load_own Ty.agg59 rfl (by repeat (first | exact List.Mem.head _ | apply List.Mem.tail)) (by repeat (first | exact DropR.zero _ | apply DropR.succ)) (.succ (.succ (.zero _)))) rfl ?_
          refine TL.runG rfl rfl (pure_build Ty.pl59 Ty.zero59 (.cons rfl rfl (.one rfl) rfl (.here (.nil _)) (.cons rfl rfl (.one rfl) rfl (.skip (.here (.nil _))) (.nil _)))) rfl ?_
          refine TL.runG rfl rfl (pure_eql_agg Ty.eq59 rfl rfl (.cons (.cons .nil)) (.cons (.cons .nil)) rfl rfl) rfl ?_
          refine TL.run1 (pure_pick_true rfl rfl) rfl ?_
          refine TL.run1 (pure_move rfl) rfl ?_
          first | refine TL.splitP 39 rfl (fun hg39 => ?_) (fun hg39 => ?_) | refine TL.split 39 rfl (fun hg39 => ?_) (fun hg39 => ?_)
          · try dsimp only at hg39
            refine TL.runG rfl rfl (pure_move rfl) rfl ?_
            first | refine TL.runG rfl rfl (pure_len Ty.sl61 rfl) rfl ?_ | refine TL.runG rfl rfl (pure_len_row Ty.sl61 rfl (by repeat (first | exact List.Mem.head _ | apply List.Mem.tail))) rfl ?_ | refine TL.runG rfl rfl (pure_len_nil Ty.sl61 rfl) rfl ?_
            refine TL.runG rfl rfl (pure_eql rfl rfl) rfl ?_
            refine TL.run1 (pure_pick_true rfl rfl) rfl ?_
            refine TL.run1 (pure_move rfl) rfl ?_
            first | refine TL.splitP 44 rfl (fun hg44 => ?_) (fun hg44 => ?_) | refine TL.split 44 rfl (fun hg44 => ?_) (fun hg44 => ?_)
            · try dsimp only at hg44
              refine TL.runG rfl rfl (pure_move rfl) rfl ?_
              refine TL.runG rfl rfl (pure_indexAddr Ty.sl61 rfl rfl (by omega) (by assumption) (List.cons_ne_nil _ _)) rfl ?_
              first | refine TL.runG rfl rfl (pure_load Ty.agg65 rfl (.succ (.succ (.succ (.succ (.succ (.zero _))))))) rfl ?_ | refine TL.runG rfl rfl (pure_load_own Ty.agg65 rfl (by repeat (first | exact List.Mem.head _ | apply List.Mem.tail)) (by repeat (first | exact DropR.zero _ | apply DropR.succ)) (.succ (.succ (.succ (.succ (.succ (.zero _))))))) rfl ?_
              refine TL.runG rfl rfl (pure_build Ty.pl65 Ty.zero65 (.cons rfl rfl (.one rfl) rfl (.here (.nil _)) (.cons rfl rfl (.one rfl) rfl (.skip (.here (.nil _))) (.cons rfl rfl (.one rfl) rfl (.skip (.skip (.skip (.here (.nil _))))) (.nil _))))) rfl ?_
              refine TL.runG rfl rfl (pure_eql_mv Ty.eqm65 rfl rfl (.i (.i (.i (.b (.b .nil))))) (.i (.i (.i (.b (.b .nil))))) rfl rfl) rfl ?_
              refine TL.run1 (pure_pick_true rfl rfl) rfl ?_
              refine TL.run1 (pure_move rfl) rfl ?_
              first | refine TL.splitP 51 rfl (fun hg51 => ?_) (fun hg51 => ?_) | refine TL.split 51 rfl (fun hg51 => ?_) (fun hg51 => ?_)
              · try dsimp only at hg51
                refine TL.runG rfl rfl (pure_move rfl) rfl ?_
                refine TL.runG rfl rfl (pure_indexAddr Ty.sl61 rfl rfl (by omega) (by assumption) (List.cons_ne_nil _ _)) rfl ?_
                first | refine TL.runG rfl rfl (pure_load Ty.agg65 rfl (.succ (.succ (.succ (.succ (.succ (.zero _))))))) rfl ?_ | refine TL.runG rfl rfl (pure_load_own Ty.agg65 rfl (by repeat (first | exact List.Mem.head _ | apply List.Mem.tail)) (by repeat (first | exact DropR.zero _ | apply DropR.succ)) (.succ (.succ (.succ (.succ (.succ (.zero _))))))) rfl ?_
                refine TL.runG rfl rfl (pure_build Ty.pl65 Ty.zero65 (.cons rfl rfl (.one rfl) rfl (.here (.nil _)) (.cons rfl rfl (.one rfl) rfl (.skip (.skip (.here (.nil _)))) (.cons rfl rfl (.one rfl) rfl (.skip (.skip (.skip (.skip (.here (.nil _)))))) (.nil _))))) rfl ?_
                refine TL.runG rfl rfl (pure_eql_mv Ty.eqm65 rfl rfl (.i (.i (.i (.b (.b .nil))))) (.i (.i (.i (.b (.b .nil))))) rfl rfl) rfl ?_
                refine TL.run1 (pure_pick_true rfl rfl) rfl ?_
                refine TL.run1 (pure_move rfl) rfl ?_
                first | refine TL.splitP 58 rfl (fun hg58 => ?_) (fun hg58 => ?_) | refine TL.split 58 rfl (fun hg58 => ?_) (fun hg58 => ?_)
                · try dsimp only at hg58
                  refine TL.runG rfl rfl (pure_build Ty.pl59 Ty.zero59 (.cons rfl rfl (.one rfl) rfl (.here (.nil _)) (.cons rfl rfl (.one rfl) rfl (.skip (.here (.nil _))) (.nil _)))) rfl ?_
                  refine TL.runG rfl rfl (pure_buildSlice (xs := [.tmp 59]) Ty.app31 (by decide) rfl rfl (.cons rfl (.agg _) rfl .nil)) rfl ?_
                  refine TL.runG rfl rfl (pure_call (CheckK) (.cons rfl (.cons rfl .nil)) Try.call18) rfl ?_
                  refine TL.runG rfl rfl (pure_eql rfl rfl) rfl ?_
                  refine TL.run1 (pure_pick_true rfl rfl) rfl ?_
                  refine TL.run1 (pure_assign rfl) rfl ?_
                  refine TL.cutEnd (by repeat (first | exact Same.refl _ _ | refine Same.put rfl ?_)) rfl ?_
                  first | (simp only [decide_eq_true_eq, Bool.false_eq_true, false_iff, true_iff, iff_true, iff_false, Bool.not_eq_true]; omega) | (simp_all; done) | (simp_all; omega) | grind
                · try dsimp only at hg58
                  refine TL.passG rfl rfl rfl rfl ?_
                  refine TL.passG rfl rfl rfl rfl ?_
                  refine TL.passG rfl rfl rfl rfl ?_
                  refine TL.passG rfl rfl rfl rfl ?_
                  refine TL.run1 (pure_pick_false rfl rfl) rfl ?_
                  refine TL.run1 (pure_assign rfl) rfl ?_
                  refine TL.cutEnd (by repeat (first | exact Same.refl _ _ | refine Same.put rfl ?_)) rfl ?_
                  first | (simp only [decide_eq_true_eq, Bool.false_eq_true, false_iff, true_iff, iff_true, iff_false, Bool.not_eq_true]; omega) | (simp_all; done) | (simp_all; omega) | grind
              · try dsimp only at hg51
                refine TL.passG rfl rfl rfl rfl ?_
                refine TL.passG rfl rfl rfl rfl ?_
                refine TL.passG rfl rfl rfl rfl ?_
                refine TL.passG rfl rfl rfl rfl ?_
                refine TL.passG rfl rfl rfl rfl ?_
                refine TL.run1 (pure_pick_false rfl rfl) rfl ?_
                refine TL.run1 (pure_move rfl) rfl ?_
                refine TL.passG rfl rfl rfl rfl ?_
                refine TL.passG rfl rfl rfl rfl ?_
                refine TL.passG rfl rfl rfl rfl ?_
                refine TL.passG rfl rfl rfl rfl ?_
                refine TL.run1 (pure_pick_false rfl rfl) rfl ?_
                refine TL.run1 (pure_assign rfl) rfl ?_
                refine TL.cutEnd (by repeat (first | exact Same.refl _ _ | refine Same.put rfl ?_)) rfl ?_
                first | (simp only [decide_eq_true_eq, Bool.false_eq_true, false_iff, true_iff, iff_true, iff_false, Bool.not_eq_true]; omega) | (simp_all; done) | (simp_all; omega) | grind
            · try dsimp only at hg44
              refine TL.passG rfl rfl rfl rfl ?_
              refine TL.passG rfl rfl rfl rfl ?_
              refine TL.passG rfl rfl rfl rfl ?_
              refine TL.passG rfl rfl rfl rfl ?_
              refine TL.passG rfl rfl rfl rfl ?_
              refine TL.run1 (pure_pick_false rfl rfl) rfl ?_
              refine TL.run1 (pure_move rfl) rfl ?_
              refine TL.passG rfl rfl rfl rfl ?_
              refine TL.passG rfl rfl rfl rfl ?_
              refine TL.passG rfl rfl rfl rfl ?_
              refine TL.passG rfl rfl rfl rfl ?_
              refine TL.passG rfl rfl rfl rfl ?_
              refine TL.run1 (pure_pick_false rfl rfl) rfl ?_
              refine TL.run1 (pure_move rfl) rfl ?_
              refine TL.passG rfl rfl rfl rfl ?_
              refine TL.passG rfl rfl rfl rfl ?_
              refine TL.passG rfl rfl rfl rfl ?_
              refine TL.passG rfl rfl rfl rfl ?_
              refine TL.run1 (pure_pick_false rfl rfl) rfl ?_
              refine TL.run1 (pure_assign rfl) rfl ?_
              refine TL.cutEnd (by repeat (first | exact Same.refl _ _ | refine Same.put rfl ?_)) rfl ?_
              first | (simp only [decide_eq_true_eq, Bool.false_eq_true, false_iff, true_iff, iff_true, iff_false, Bool.not_eq_true]; omega) | (simp_all; done) | (simp_all; omega) | grind
          · try dsimp only at hg39
            refine TL.passG rfl rfl rfl rfl ?_
            refine TL.passG rfl rfl rfl rfl ?_
            refine TL.passG rfl rfl rfl rfl ?_
            refine TL.run1 (pure_pick_false rfl rfl) rfl ?_
            refine TL.run1 (pure_move rfl) rfl ?_
            refine TL.passG rfl rfl rfl rfl ?_
            refine TL.passG rfl rfl rfl rfl ?_
            refine TL.passG rfl rfl rfl rfl ?_
            refine TL.passG rfl rfl rfl rfl ?_
            refine TL.passG rfl rfl rfl rfl ?_
            refine TL.run1 (pure_pick_false rfl rfl) rfl ?_
            refine TL.run1 (pure_move rfl) rfl ?_
            refine TL.passG rfl rfl rfl rfl ?_
            refine TL.passG rfl rfl rfl rfl ?_
            refine TL.passG rfl rfl rfl rfl ?_
            refine TL.passG rfl rfl rfl rfl ?_
            refine TL.passG rfl rfl rfl rfl ?_
            refine TL.run1 (pure_pick_false rfl rfl) rfl ?_
            refine TL.run1 (pure_move rfl) rfl ?_
            refine TL.passG rfl rfl rfl rfl ?_
            refine TL.passG rfl rfl rfl rfl ?_
            refine TL.passG rfl rfl rfl rfl ?_
            refine TL.passG rfl rfl rfl rfl ?_
            refine TL.run1 (pure_pick_false rfl rfl) rfl ?_
            refine TL.run1 (pure_assign rfl) rfl ?_
            refine TL.cutEnd (by repeat (first | exact Same.refl _ _ | refine Same.put rfl ?_)) rfl ?_
            first | (simp only [decide_eq_true_eq, Bool.false_eq_true, false_iff, true_iff, iff_true, iff_false, Bool.not_eq_true]; omega) | (simp_all; done) | (simp_all; omega) | grind
        · try dsimp only at hg32
          refine TL.passG rfl rfl rfl rfl ?_
          refine TL.passG rfl rfl rfl rfl ?_
          refine TL.passG rfl rfl rfl rfl ?_
          refine TL.passG rfl rfl rfl rfl ?_
          refine TL.passG rfl rfl rfl rfl ?_
          refine TL.run1 (pure_pick_false rfl rfl) rfl ?_
          refine TL.run1 (pure_move rfl) rfl ?_
          refine TL.passG rfl rfl rfl rfl ?_
          refine TL.passG rfl rfl rfl rfl ?_
          refine TL.passG rfl rfl rfl rfl ?_
          refine TL.run1 (pure_pick_false rfl rfl) rfl ?_
          refine TL.run1 (pure_move rfl) rfl ?_
          refine TL.passG rfl rfl rfl rfl ?_
          refine TL.passG rfl rfl rfl rfl ?_
          refine TL.passG rfl rfl rfl rfl ?_
          refine TL.passG rfl rfl rfl rfl ?_
          refine TL.passG rfl rfl rfl rfl ?_
          refine TL.run1 (pure_pick_false rfl rfl) rfl ?_
          refine TL.run1 (pure_move rfl) rfl ?_
          refine TL.passG rfl rfl rfl rfl ?_
          refine TL.passG rfl rfl rfl rfl ?_
          refine TL.passG rfl rfl rfl rfl ?_
          refine TL.passG rfl rfl rfl rfl ?_
          refine TL.passG rfl rfl rfl rfl ?_
          refine TL.run1 (pure_pick_false rfl rfl) rfl ?_
          refine TL.run1 (pure_move rfl) rfl ?_
          refine TL.passG rfl rfl rfl rfl ?_
          refine TL.passG rfl rfl rfl rfl ?_
          refine TL.passG rfl rfl rfl rfl ?_
          refine TL.passG rfl rfl rfl rfl ?_
          refine TL.run1 (pure_pick_false rfl rfl) rfl ?_
          refine TL.run1 (pure_assign rfl) rfl ?_
          refine TL.cutEnd (by repeat (first | exact Same.refl _ _ | refine Same.put rfl ?_)) rfl ?_
          first | (simp only [decide_eq_true_eq, Bool.false_eq_true, false_iff, true_iff, iff_true, iff_false, Bool.not_eq_true]; omega) | (simp_all; done) | (simp_all; omega) | grind
      · try dsimp only at hg25
        refine TL.passG rfl rfl rfl rfl ?_
        refine TL.passG rfl rfl rfl rfl ?_
        refine TL.passG rfl rfl rfl rfl ?_
        refine TL.passG rfl rfl rfl rfl ?_
        refine TL.passG rfl rfl rfl rfl ?_
        refine TL.run1 (pure_pick_false rfl rfl) rfl ?_
        refine TL.run1 (pure_move rfl) rfl ?_
        refine TL.passG rfl rfl rfl rfl ?_
        refine TL.passG rfl rfl rfl rfl ?_
        refine TL.passG rfl rfl rfl rfl ?_
        refine TL.passG rfl rfl rfl rfl ?_
        refine TL.passG rfl rfl rfl rfl ?_
        refine TL.run1 (pure_pick_false rfl rfl) rfl ?_
        refine TL.run1 (pure_move rfl) rfl ?_
        refine TL.passG rfl rfl rfl rfl ?_
        refine TL.passG rfl rfl rfl rfl ?_
        refine TL.passG rfl rfl rfl rfl ?_
        refine TL.run1 (pure_pick_false rfl rfl) rfl ?_
        refine TL.run1 (pure_move rfl) rfl ?_
        refine TL.passG rfl rfl rfl rfl ?_
        refine TL.passG rfl rfl rfl rfl ?_
        refine TL.passG rfl rfl rfl rfl ?_
        refine TL.passG rfl rfl rfl rfl ?_
        refine TL.passG rfl rfl rfl rfl ?_
        refine TL.run1 (pure_pick_false rfl rfl) rfl ?_
        refine TL.run1 (pure_move rfl) rfl ?_
        refine TL.passG rfl rfl rfl rfl ?_
        refine TL.passG rfl rfl rfl rfl ?_
        refine TL.passG rfl rfl rfl rfl ?_
        refine TL.passG rfl rfl rfl rfl ?_
        refine TL.passG rfl rfl rfl rfl ?_
        refine TL.run1 (pure_pick_false rfl rfl) rfl ?_
        refine TL.run1 (pure_move rfl) rfl ?_
        refine TL.passG rfl rfl rfl rfl ?_
        refine TL.passG rfl rfl rfl rfl ?_
        refine TL.passG rfl rfl rfl rfl ?_
        refine TL.passG rfl rfl rfl rfl ?_
        refine TL.run1 (pure_pick_false rfl rfl) rfl ?_
        refine TL.run1 (pure_assign rfl) rfl ?_
        refine TL.cutEnd (by repeat (first | exact Same.refl _ _ | refine Same.put rfl ?_)) rfl ?_
        first | (simp only [decide_eq_true_eq, Bool.false_eq_true, false_iff, true_iff, iff_true, iff_false, Bool.not_eq_true]; omega) | (simp_all; done) | (simp_all; omega) | grind
    · try dsimp only at hg18
      refine TL.passG rfl rfl rfl rfl ?_
      refine TL.passG rfl rfl rfl rfl ?_
      refine TL.passG rfl rfl rfl rfl ?_
      refine TL.passG rfl rfl rfl rfl ?_
      refine TL.passG rfl rfl rfl rfl ?_
      refine TL.run1 (pure_pick_false rfl rfl) rfl ?_
      refine TL.run1 (pure_move rfl) rfl ?_
      refine TL.passG rfl rfl rfl rfl ?_
      refine TL.passG rfl rfl rfl rfl ?_
      refine TL.passG rfl rfl rfl rfl ?_
      refine TL.passG rfl rfl rfl rfl ?_
      refine TL.passG rfl rfl rfl rfl ?_
      refine TL.run1 (pure_pick_false rfl rfl) rfl ?_
      refine TL.run1 (pure_move rfl) rfl ?_
      refine TL.passG rfl rfl rfl rfl ?_
      refine TL.passG rfl rfl rfl rfl ?_
      refine TL.passG rfl rfl rfl rfl ?_
      refine TL.passG rfl rfl rfl rfl ?_
      refine TL.passG rfl rfl rfl rfl ?_
      refine TL.run1 (pure_pick_false rfl rfl) rfl ?_
      refine TL.run1 (pure_move rfl) rfl ?_
      refine TL.passG rfl rfl rfl rfl ?_
      refine TL.passG rfl rfl rfl rfl ?_
      refine TL.passG rfl rfl rfl rfl ?_
      refine TL.run1 (pure_pick_false rfl rfl) rfl ?_
      refine TL.run1 (pure_move rfl) rfl ?_
      refine TL.passG rfl rfl rfl rfl ?_
      refine TL.passG rfl rfl rfl rfl ?_
      refine TL.passG rfl rfl rfl rfl ?_
      refine TL.passG rfl rfl rfl rfl ?_
      refine TL.passG rfl rfl rfl rfl ?_
      refine TL.run1 (pure_pick_false rfl rfl) rfl ?_
      refine TL.run1 (pure_move rfl) rfl ?_
      refine TL.passG rfl rfl rfl rfl ?_
      refine TL.passG rfl rfl rfl rfl ?_
      refine TL.passG rfl rfl rfl rfl ?_
      refine TL.passG rfl rfl rfl rfl ?_
      refine TL.passG rfl rfl rfl rfl ?_
      refine TL.run1 (pure_pick_false rfl rfl) rfl ?_
      refine TL.run1 (pure_move rfl) rfl ?_
      refine TL.passG rfl rfl rfl rfl ?_
      refine TL.passG rfl rfl rfl rfl ?_
      refine TL.passG rfl rfl rfl rfl ?_
      refine TL.passG rfl rfl rfl rfl ?_
      refine TL.run1 (pure_pick_false rfl rfl) rfl ?_
      refine TL.run1 (pure_assign rfl) rfl ?_
      refine TL.cutEnd (by repeat (first | exact Same.refl _ _ | refine Same.put rfl ?_)) rfl ?_
      first | (simp only [decide_eq_true_eq, Bool.false_eq_true, false_iff, true_iff, iff_true, iff_false, Bool.not_eq_true]; omega) | (simp_all; done) | (simp_all; omega) | grind
  refine TC.ret ?_
  exact ret_bool rfl (by simp)
end Go.Ob
