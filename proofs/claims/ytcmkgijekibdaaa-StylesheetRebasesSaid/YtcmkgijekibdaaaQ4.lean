import Derived.Test.YtcmkgijekibdaaaQ3
set_option linter.unusedVariables false
set_option linter.unusedSimpArgs false
namespace Go.Ob
open Go.Proofs
set_option maxHeartbeats 2000000 in
set_option maxRecDepth 100000 in
theorem R8Check_spec (l : List Sty) (hl : l.length ≤ 1000000) (hn : ∀ i, i < l.length → (yAt l i).name.size ≤ 1000000000) (hp : ∀ i, i < l.length → (yAt l i).props.length ≤ 1000000) : Fun Try.prog 16 [.sl 6 (encSs l)] (.v (.int .i64 (checkS l))) := by
  refine Fun.enter (n := 88) (rs := [.tmp 2]) Try.func16 rfl Try.ntmps16 Try.results16 rfl (fun w F => ?_)
  have hk := encSs_len l
  refine TC.seq ?_; refine TC.region ?_; refine TL.run1 (pure_assign rfl) rfl ?_; refine TL.nil' ?_; refine TC.seq ?_; refine TC.seq ?_; refine TC.region ?_; refine TL.run1 (pure_move rfl) rfl ?_
  first | refine TL.run1 (pure_len Ty.sl22 rfl) rfl ?_ | refine TL.run1 (pure_len_row Ty.sl22 rfl (by repeat (first | exact List.Mem.head _ | apply List.Mem.tail))) rfl ?_ | refine TL.run1 (pure_len_nil Ty.sl22 rfl) rfl ?_
  refine TL.run1 (pure_gtr rfl rfl) rfl ?_; refine TL.nil' ?_
  first | refine TC.condD rfl (fun hc12 => ?_) (fun hc12 => ?_) | refine TC.condN rfl (fun hc12 => ?_) (fun hc12 => ?_) | refine TC.cond rfl (fun hc12 => ?_) (fun hc12 => ?_)
  · try dsimp only at hc12
    refine TC.seq ?_; refine TC.region ?_; refine TL.run1 (pure_assign rfl) rfl ?_; refine TL.nil' ?_; refine TC.ret ?_; refine then_ret ?_
    exact ret_int rfl (by unfold checkS; rw [if_pos (by omega)])
  · try dsimp only at hc12
    have h0 : ¬ l.length > 128 := by omega
    refine TC.skip' ?_; refine TC.seq ?_; refine TC.seq ?_; refine TC.region ?_; refine TL.run1 (pure_assign rfl) rfl ?_; refine TL.nil' ?_; refine TC.block ?_; refine TC.loopX (X := Nat) (fun i => [(0, .sl 6 (encSs l)), (3, .v (.int .i64 i))]) (fun i => []) (fun i => (i ≤ l.length) ∧ (∀ j, j < i → ownE l j = 0)) (fun i => l.length - i) (0) ⟨by skip; repeat (first | exact Agree.nil | refine Agree.cons rfl ?_), by skip; repeat (first | exact List.nil_sublist _ | exact List.Sublist.refl _ | apply List.Sublist.cons_cons | apply List.Sublist.cons)⟩ ?_ ?_
    · skip
      exact ⟨Nat.zero_le _, fun j h => by omega⟩
    intro i
    rintro ⟨h1, h2⟩
    show TC _ _ _ (Env.of [(0, .sl 6 (encSs l)), (3, .v (.int .i64 i))]) []
    refine TC.seq ?_; refine TC.seq ?_; refine TC.region ?_; refine TL.run1 (pure_move rfl) rfl ?_; refine TL.run1 (pure_move rfl) rfl ?_
    first | refine TL.run1 (pure_len Ty.sl22 rfl) rfl ?_ | refine TL.run1 (pure_len_row Ty.sl22 rfl (by repeat (first | exact List.Mem.head _ | apply List.Mem.tail))) rfl ?_ | refine TL.run1 (pure_len_nil Ty.sl22 rfl) rfl ?_
    refine TL.run1 (pure_lss rfl rfl) rfl ?_; refine TL.nil' ?_
    first | refine TC.condD rfl (fun hc16 => ?_) (fun hc16 => ?_) | refine TC.condN rfl (fun hc16 => ?_) (fun hc16 => ?_) | refine TC.cond rfl (fun hc16 => ?_) (fun hc16 => ?_)
    · try dsimp only at hc16
      refine TC.skip' ?_; refine TC.seq ?_; refine TC.block ?_; refine TC.seq ?_; refine TC.region ?_; refine TL.run1 (pure_move rfl) rfl ?_; refine TL.run1 (pure_move rfl) rfl ?_; refine TL.run1 (pure_call (Rown_spec l i (by omega) hl (hn i (by omega)) (hp i (by omega))) (.cons rfl (.cons rfl .nil)) Try.call47) rfl ?_; refine TL.run1 (pure_assign rfl) rfl ?_; refine TL.nil' ?_; refine TC.seq ?_; refine TC.region ?_; refine TL.run1 (pure_move rfl) rfl ?_; refine TL.run1 (pure_neq rfl rfl) rfl ?_; refine TL.nil' ?_
      first | refine TC.condD rfl (fun hc23 => ?_) (fun hc23 => ?_) | refine TC.condN rfl (fun hc23 => ?_) (fun hc23 => ?_) | refine TC.cond rfl (fun hc23 => ?_) (fun hc23 => ?_)
      · try dsimp only at hc23
        refine TC.seq ?_; refine TC.region ?_; refine TL.run1 (pure_move rfl) rfl ?_; refine TL.run1 (pure_assign rfl) rfl ?_; refine TL.nil' ?_; refine TC.ret ?_; refine block_ret ?_; refine then_ret ?_; refine loop_ret ?_; refine block_ret ?_; refine then_ret ?_
        exact ret_int rfl (by rw [checkS_own h0 (by omega) h2 hc23])
      · try dsimp only at hc23
        refine TC.skip ?_; refine block_normal ?_; refine then_normal ?_; refine TC.region ?_; refine TL.run1 (pure_move rfl) rfl ?_; refine TL.run1 (pure_add rfl rfl (mkI64 (by omega) (by omega))) rfl ?_; refine TL.run1 (pure_assign rfl) rfl ?_; refine TL.nil ?_
        refine loop_next (i + 1) ⟨by ((try dsimp only); rw [show (((i + 1 : Nat)) : Int) = (i : Int) + 1 by omega]; repeat (first | exact Agree.nil | refine Agree.cons rfl ?_)), by repeat (first | exact List.nil_sublist _ | exact List.Sublist.refl _ | apply List.Sublist.cons_cons | apply List.Sublist.cons)⟩ ⟨by omega, fun j h => by rcases Nat.lt_or_eq_of_le (Nat.le_of_lt_succ h) with h | h; exact h2 j h; subst h; exact Classical.not_not.1 hc23⟩ (by omega)
    · try dsimp only at hc16
      have hown : ∀ j, j < l.length → ownE l j = 0 := fun j hj => h2 j (by omega)
      have hinc := own_inc hown
      refine TC.exit ?_; refine then_exit ?_; refine loop_exit ?_; refine block_here ?_; refine then_normal ?_; refine TC.seq ?_; refine TC.seq ?_; refine TC.region ?_; refine TL.run1 (pure_assign rfl) rfl ?_; refine TL.nil' ?_; refine TC.block ?_; refine TC.loopX (X := Nat) (fun i => [(0, .sl 6 (encSs l)), (5, .v (.int .i64 i))]) (fun i => []) (fun i => (i ≤ l.length) ∧ (∀ j, j < i → ¬ badP l j)) (fun i => l.length - i) (0) ⟨by skip; repeat (first | exact Agree.nil | refine Agree.cons rfl ?_), by skip; repeat (first | exact List.nil_sublist _ | exact List.Sublist.refl _ | apply List.Sublist.cons_cons | apply List.Sublist.cons)⟩ ?_ ?_
      · skip
        exact ⟨Nat.zero_le _, fun j h => by omega⟩
      intro i
      rintro ⟨h1, h3⟩
      show TC _ _ _ (Env.of [(0, .sl 6 (encSs l)), (5, .v (.int .i64 i))]) []
      refine TC.seq ?_; refine TC.seq ?_; refine TC.region ?_; refine TL.run1 (pure_move rfl) rfl ?_; refine TL.run1 (pure_move rfl) rfl ?_
      first | refine TL.run1 (pure_len Ty.sl22 rfl) rfl ?_ | refine TL.run1 (pure_len_row Ty.sl22 rfl (by repeat (first | exact List.Mem.head _ | apply List.Mem.tail))) rfl ?_ | refine TL.run1 (pure_len_nil Ty.sl22 rfl) rfl ?_
      refine TL.run1 (pure_lss rfl rfl) rfl ?_; refine TL.nil' ?_
      first | refine TC.condD rfl (fun hc28 => ?_) (fun hc28 => ?_) | refine TC.condN rfl (fun hc28 => ?_) (fun hc28 => ?_) | refine TC.cond rfl (fun hc28 => ?_) (fun hc28 => ?_)
      · try dsimp only at hc28
        refine TC.skip' ?_; refine TC.seq ?_; refine TC.block ?_; refine TC.seq ?_
        have hil : i < l.length := by omega
        have hrow := encSs_get l i hil
        have hkd := (own_ok.1 (hown i hil)).kind
        refine TC.region ?_; refine TL.run1 (pure_move rfl) rfl ?_; refine TL.run1 (pure_move rfl) rfl ?_; refine TL.run1 (pure_indexAddr Ty.sl22 rfl rfl (by omega) hrow (List.cons_ne_nil _ _)) rfl ?_
        first | refine TL.run1 (pure_load Ty.agg28 rfl (.succ (.succ (.succ (.succ (.succ (.succ (.zero _)))))))) rfl ?_ | refine TL.run1 (pure_load_own Ty.agg28 rfl (by repeat (first | exact List.Mem.head _ | apply List.Mem.tail)) (by repeat (first | exact DropR.zero _ | apply DropR.succ)) (.succ (.succ (.succ (.succ (.succ (.succ (.zero _)))))))) rfl ?_
        refine TL.alloc Ty.zero28 rfl (fun g6 => ?_)
        refine TL.store rfl rfl (.agg _) Try.sizeOf28 rfl (by repeat (first | exact UpdR.here _ | apply UpdR.there)) (by repeat (first | exact PutR.nil _ | apply PutR.here | apply PutR.skip)) ?_; refine TL.nil' ?_; refine TC.seq ?_; refine TC.regionCut [35, 36, 37, 38, 39, 40, 41, 42, 43, 44, 45, 46] 46 ((yAt l i).base ≠ 0 ∧ ¬ isP l (yAt l i).kind (yAt l i).base) ?_ ?_
        · skip
          first | refine TL.run1 (pure_fieldAddr Ty.f28_3 rfl (.succ (.succ (.succ (.zero _)))) (List.cons_ne_nil _ _)) rfl ?_ | refine TL.run1 (pure_fieldAddr_own Ty.f28_3 rfl) rfl ?_
          first | refine TL.run1 (pure_load1 Ty.one3 rfl) rfl ?_ | refine TL.run1 (pure_load1_own Ty.one3 rfl (by repeat (first | exact List.Mem.head _ | apply List.Mem.tail)) (by repeat (first | exact DropR.zero _ | apply DropR.succ))) rfl ?_
          refine TL.run1 (pure_neq rfl rfl) rfl ?_; refine TL.run1 (pure_move rfl) rfl ?_
          first | refine TL.splitP 38 rfl (fun hg38 => ?_) (fun hg38 => ?_) | refine TL.split 38 rfl (fun hg38 => ?_) (fun hg38 => ?_)
          · try dsimp only at hg38
            refine TL.runG rfl rfl (pure_move rfl) rfl ?_
            first | refine TL.runG rfl rfl (pure_fieldAddr Ty.f28_1 rfl (.succ (.zero _)) (List.cons_ne_nil _ _)) rfl ?_ | refine TL.runG rfl rfl (pure_fieldAddr_own Ty.f28_1 rfl) rfl ?_
            first | refine TL.runG rfl rfl (pure_load1 Ty.one3 rfl) rfl ?_ | refine TL.runG rfl rfl (pure_load1_own Ty.one3 rfl (by repeat (first | exact List.Mem.head _ | apply List.Mem.tail)) (by repeat (first | exact DropR.zero _ | apply DropR.succ))) rfl ?_
            first | refine TL.runG rfl rfl (pure_fieldAddr Ty.f28_3 rfl (.succ (.succ (.succ (.zero _)))) (List.cons_ne_nil _ _)) rfl ?_ | refine TL.runG rfl rfl (pure_fieldAddr_own Ty.f28_3 rfl) rfl ?_
            first | refine TL.runG rfl rfl (pure_load1 Ty.one3 rfl) rfl ?_ | refine TL.runG rfl rfl (pure_load1_own Ty.one3 rfl (by repeat (first | exact List.Mem.head _ | apply List.Mem.tail)) (by repeat (first | exact DropR.zero _ | apply DropR.succ))) rfl ?_
            first | refine TL.runG rfl rfl (pure_call (RIs_spec l (yAt l i).kind (yAt l i).base hl) (.cons rfl (.cons rfl (.cons rfl .nil))) Try.call48) rfl ?_ | refine TL.runG rfl rfl (pure_call (RIs_spec l 1 (yAt l i).next hl) (.cons rfl (.cons rfl (.cons rfl .nil))) Try.call48) rfl ?_
            refine TL.runG rfl rfl (pure_not rfl) rfl ?_; refine TL.run1 (pure_pick_true rfl rfl) rfl ?_; refine TL.cutEnd (by repeat (first | exact Same.refl _ _ | refine Same.put rfl ?_)) rfl ?_
            first | (simp_all; done) | grind
          · try dsimp only at hg38
            refine TL.passG rfl rfl rfl rfl ?_; refine TL.passG rfl rfl rfl rfl ?_; refine TL.passG rfl rfl rfl rfl ?_; refine TL.passG rfl rfl rfl rfl ?_; refine TL.passG rfl rfl rfl rfl ?_; refine TL.passG rfl rfl rfl rfl ?_; refine TL.passG rfl rfl rfl rfl ?_; refine TL.run1 (pure_pick_false rfl rfl) rfl ?_; refine TL.cutEnd (by repeat (first | exact Same.refl _ _ | refine Same.put rfl ?_)) rfl ?_
            first | (simp_all; done) | grind
        first | refine TC.condD rfl (fun hc46 => ?_) (fun hc46 => ?_) | refine TC.condN rfl (fun hc46 => ?_) (fun hc46 => ?_) | refine TC.cond rfl (fun hc46 => ?_) (fun hc46 => ?_)
        · try dsimp only at hc46
          have hb : badP l i := .inl hc46
          refine TC.seq ?_; refine TC.region ?_; refine TL.run1 (pure_assign rfl) rfl ?_; refine TL.nil' ?_; refine TC.ret ?_; refine then_ret ?_; refine block_ret ?_; refine then_ret ?_; refine loop_ret ?_; refine block_ret ?_; refine then_ret ?_
          exact ret_int rfl (by rw [← checkS_bad h0 hown (by omega) hb])
        · try dsimp only at hc46
          refine TC.skip' ?_; refine TC.regionCut [47, 48, 49, 50, 51, 52, 53, 54, 55, 56, 57, 58, 59, 60, 61] 61 ((yAt l i).next ≠ 0 ∧ ((yAt l i).kind ≠ 1 ∨ ¬ isP l 1 (yAt l i).next)) ?_ ?_
          · skip
            first | refine TL.run1 (pure_fieldAddr Ty.f28_4 rfl (.succ (.succ (.succ (.succ (.zero _))))) (List.cons_ne_nil _ _)) rfl ?_ | refine TL.run1 (pure_fieldAddr_own Ty.f28_4 rfl) rfl ?_
            first | refine TL.run1 (pure_load1 Ty.one3 rfl) rfl ?_ | refine TL.run1 (pure_load1_own Ty.one3 rfl (by repeat (first | exact List.Mem.head _ | apply List.Mem.tail)) (by repeat (first | exact DropR.zero _ | apply DropR.succ))) rfl ?_
            refine TL.run1 (pure_neq rfl rfl) rfl ?_; refine TL.run1 (pure_move rfl) rfl ?_
            first | refine TL.splitP 50 rfl (fun hg50 => ?_) (fun hg50 => ?_) | refine TL.split 50 rfl (fun hg50 => ?_) (fun hg50 => ?_)
            · try dsimp only at hg50
              first | refine TL.runG rfl rfl (pure_fieldAddr Ty.f28_1 rfl (.succ (.zero _)) (List.cons_ne_nil _ _)) rfl ?_ | refine TL.runG rfl rfl (pure_fieldAddr_own Ty.f28_1 rfl) rfl ?_
              first | refine TL.runG rfl rfl (pure_load1 Ty.one3 rfl) rfl ?_ | refine TL.runG rfl rfl (pure_load1_own Ty.one3 rfl (by repeat (first | exact List.Mem.head _ | apply List.Mem.tail)) (by repeat (first | exact DropR.zero _ | apply DropR.succ))) rfl ?_
              refine TL.runG rfl rfl (pure_neq rfl rfl) rfl ?_; refine TL.runG rfl rfl (pure_move rfl) rfl ?_
              first | refine TL.splitP 54 rfl (fun hg54 => ?_) (fun hg54 => ?_) | refine TL.split 54 rfl (fun hg54 => ?_) (fun hg54 => ?_)
              · try dsimp only at hg54
                refine TL.passG rfl rfl rfl rfl ?_; refine TL.passG rfl rfl rfl rfl ?_; refine TL.passG rfl rfl rfl rfl ?_; refine TL.passG rfl rfl rfl rfl ?_; refine TL.passG rfl rfl rfl rfl ?_; refine TL.runG rfl rfl (pure_pick_true rfl rfl) rfl ?_; refine TL.run1 (pure_pick_true rfl rfl) rfl ?_; refine TL.cutEnd (by repeat (first | exact Same.refl _ _ | refine Same.put rfl ?_)) rfl ?_
                first | (simp_all; done) | grind
              · try dsimp only at hg54
                refine TL.runG rfl rfl (pure_move rfl) rfl ?_
                first | refine TL.runG rfl rfl (pure_fieldAddr Ty.f28_4 rfl (.succ (.succ (.succ (.succ (.zero _))))) (List.cons_ne_nil _ _)) rfl ?_ | refine TL.runG rfl rfl (pure_fieldAddr_own Ty.f28_4 rfl) rfl ?_
                first | refine TL.runG rfl rfl (pure_load1 Ty.one3 rfl) rfl ?_ | refine TL.runG rfl rfl (pure_load1_own Ty.one3 rfl (by repeat (first | exact List.Mem.head _ | apply List.Mem.tail)) (by repeat (first | exact DropR.zero _ | apply DropR.succ))) rfl ?_
                first | refine TL.runG rfl rfl (pure_call (RIs_spec l (yAt l i).kind (yAt l i).base hl) (.cons rfl (.cons rfl (.cons rfl .nil))) Try.call48) rfl ?_ | refine TL.runG rfl rfl (pure_call (RIs_spec l 1 (yAt l i).next hl) (.cons rfl (.cons rfl (.cons rfl .nil))) Try.call48) rfl ?_
                refine TL.runG rfl rfl (pure_not rfl) rfl ?_; refine TL.runG rfl rfl (pure_pick_false rfl rfl) rfl ?_; refine TL.run1 (pure_pick_true rfl rfl) rfl ?_; refine TL.cutEnd (by repeat (first | exact Same.refl _ _ | refine Same.put rfl ?_)) rfl ?_
                first | (simp_all; done) | grind
            · try dsimp only at hg50
              refine TL.passG rfl rfl rfl rfl ?_; refine TL.passG rfl rfl rfl rfl ?_; refine TL.passG rfl rfl rfl rfl ?_; refine TL.passG rfl rfl rfl rfl ?_; refine TL.passG rfl rfl rfl rfl ?_; refine TL.passG rfl rfl rfl rfl ?_; refine TL.passG rfl rfl rfl rfl ?_; refine TL.passG rfl rfl rfl rfl ?_; refine TL.passG rfl rfl rfl rfl ?_; refine TL.passG rfl rfl rfl rfl ?_; refine TL.run1 (pure_pick_false rfl rfl) rfl ?_; refine TL.cutEnd (by repeat (first | exact Same.refl _ _ | refine Same.put rfl ?_)) rfl ?_
              first | (simp_all; done) | grind
          first | refine TC.condD rfl (fun hc61 => ?_) (fun hc61 => ?_) | refine TC.condN rfl (fun hc61 => ?_) (fun hc61 => ?_) | refine TC.cond rfl (fun hc61 => ?_) (fun hc61 => ?_)
          · try dsimp only at hc61
            have hb : badP l i := .inr ⟨hc61.1, hc61.2.imp (fun h => by omega) id⟩
            refine TC.seq ?_; refine TC.region ?_; refine TL.run1 (pure_assign rfl) rfl ?_; refine TL.nil' ?_; refine TC.ret ?_; refine block_ret ?_; refine then_ret ?_; refine loop_ret ?_; refine block_ret ?_; refine then_ret ?_
            exact ret_int rfl (by rw [← checkS_bad h0 hown (by omega) hb])
          · try dsimp only at hc61
            have hnb : ¬ badP l i := fun h => h.elim hc46 (fun h => hc61 ⟨h.1, h.2.imp (fun h => by omega) id⟩)
            refine TC.skip ?_; refine block_normal ?_; refine then_normal ?_; refine TC.region ?_; refine TL.run1 (pure_move rfl) rfl ?_; refine TL.run1 (pure_add rfl rfl (mkI64 (by omega) (by omega))) rfl ?_; refine TL.run1 (pure_assign rfl) rfl ?_; refine TL.nil ?_
            refine loop_next (i + 1) ⟨by ((try dsimp only); rw [show (((i + 1 : Nat)) : Int) = (i : Int) + 1 by omega]; repeat (first | exact Agree.nil | refine Agree.cons rfl ?_)), by repeat (first | exact List.nil_sublist _ | exact List.Sublist.refl _ | apply List.Sublist.cons_cons | apply List.Sublist.cons)⟩ ⟨by omega, fun j h => by rcases Nat.lt_or_eq_of_le (Nat.le_of_lt_succ h) with h | h; exact h3 j h; subst h; exact hnb⟩ (by omega)
      · try dsimp only at hc28
        have hbad : ∀ j, j < l.length → ¬ badP l j := fun j hj => h3 j (by omega)
        have hlk := bad_link hbad
        refine TC.exit ?_; refine then_exit ?_; refine loop_exit ?_; refine block_here ?_; refine then_normal ?_; refine TC.seq ?_; refine TC.seq ?_; refine TC.region ?_; refine TL.run1 (pure_assign rfl) rfl ?_; refine TL.nil' ?_; refine TC.block ?_; refine TC.loopX (X := Nat) (fun i => [(0, .sl 6 (encSs l)), (7, .v (.int .i64 i))]) (fun i => []) (fun i => (i ≤ l.length) ∧ (∀ j, j < i → ¬ cycP l j)) (fun i => l.length - i) (0) ⟨by skip; repeat (first | exact Agree.nil | refine Agree.cons rfl ?_), by skip; repeat (first | exact List.nil_sublist _ | exact List.Sublist.refl _ | apply List.Sublist.cons_cons | apply List.Sublist.cons)⟩ ?_ ?_
        · skip
          exact ⟨Nat.zero_le _, fun j h => by omega⟩
        intro i
        rintro ⟨h1, h4⟩
        show TC _ _ _ (Env.of [(0, .sl 6 (encSs l)), (7, .v (.int .i64 i))]) []
        refine TC.seq ?_; refine TC.seq ?_; refine TC.region ?_; refine TL.run1 (pure_move rfl) rfl ?_; refine TL.run1 (pure_move rfl) rfl ?_
        first | refine TL.run1 (pure_len Ty.sl22 rfl) rfl ?_ | refine TL.run1 (pure_len_row Ty.sl22 rfl (by repeat (first | exact List.Mem.head _ | apply List.Mem.tail))) rfl ?_ | refine TL.run1 (pure_len_nil Ty.sl22 rfl) rfl ?_
        refine TL.run1 (pure_lss rfl rfl) rfl ?_; refine TL.nil' ?_
        first | refine TC.condD rfl (fun hc65 => ?_) (fun hc65 => ?_) | refine TC.condN rfl (fun hc65 => ?_) (fun hc65 => ?_) | refine TC.cond rfl (fun hc65 => ?_) (fun hc65 => ?_)
        · try dsimp only at hc65
          refine TC.skip' ?_; refine TC.seq ?_; refine TC.block ?_; refine TC.seq ?_
          have hil : i < l.length := by omega
          have hrow := encSs_get l i hil
          have hfi0 := hinc.find hil
          have hfi : (findS l (sq l (yAt l i).id 0)).toNat = i := by (rw [sq, hfi0]; omega)
          have hid : sq l (yAt l i).id 0 ≠ 0 := by (have := (own_ok.1 (hown i hil)).lo; rw [sq]; omega)
          refine TC.region ?_; refine TL.run1 (pure_move rfl) rfl ?_; refine TL.run1 (pure_move rfl) rfl ?_; refine TL.run1 (pure_indexAddr Ty.sl22 rfl rfl (by omega) hrow (List.cons_ne_nil _ _)) rfl ?_
          first | refine TL.run1 (pure_load Ty.agg28 rfl (.succ (.succ (.succ (.succ (.succ (.succ (.zero _)))))))) rfl ?_ | refine TL.run1 (pure_load_own Ty.agg28 rfl (by repeat (first | exact List.Mem.head _ | apply List.Mem.tail)) (by repeat (first | exact DropR.zero _ | apply DropR.succ)) (.succ (.succ (.succ (.succ (.succ (.succ (.zero _)))))))) rfl ?_
          refine TL.alloc Ty.zero28 rfl (fun g8 => ?_)
          refine TL.store rfl rfl (.agg _) Try.sizeOf28 rfl (by repeat (first | exact UpdR.here _ | apply UpdR.there)) (by repeat (first | exact PutR.nil _ | apply PutR.here | apply PutR.skip)) ?_; refine TL.nil' ?_; refine TC.seq ?_; refine TC.region ?_; refine TL.run1 (pure_assign rfl) rfl ?_; refine TL.nil' ?_; refine TC.block ?_; refine TC.loopX (X := Nat) (fun n => [(0, .sl 6 (encSs l)), (7, .v (.int .i64 i)), (8, .v (.pointer (some ⟨g8, 0, none⟩))), (9, .v (.int .i64 n))]) (fun n => [.box g8 28 [.v (.int .i64 (yAt l (findS l (sq l (yAt l i).id n)).toNat).id), .v (.int .i64 (yAt l (findS l (sq l (yAt l i).id n)).toNat).kind), .v (.string (yAt l (findS l (sq l (yAt l i).id n)).toNat).name), .v (.int .i64 (yAt l (findS l (sq l (yAt l i).id n)).toNat).base), .v (.int .i64 (yAt l (findS l (sq l (yAt l i).id n)).toNat).next), .sl 2 (encP (yAt l (findS l (sq l (yAt l i).id n)).toNat).props)]]) (fun n => (n ≤ l.length) ∧ (∀ k, k ≤ n → sq l (yAt l i).id k ≠ 0)) (fun n => l.length - n) (0) ⟨by skip; repeat (first | exact Agree.nil | refine Agree.cons rfl ?_), by (try dsimp only); rw [hfi]; repeat (first | exact List.nil_sublist _ | exact List.Sublist.refl _ | apply List.Sublist.cons_cons | apply List.Sublist.cons)⟩ ?_ ?_
          · skip
            exact ⟨Nat.zero_le _, fun k hk => by rw [Nat.le_zero.1 hk]; exact hid⟩
          intro n
          rintro ⟨h5, h6⟩
          show TC _ _ _ (Env.of [(0, .sl 6 (encSs l)), (7, .v (.int .i64 i)), (8, .v (.pointer (some ⟨g8, 0, none⟩))), (9, .v (.int .i64 n))]) [.box g8 28 [.v (.int .i64 (yAt l (findS l (sq l (yAt l i).id n)).toNat).id), .v (.int .i64 (yAt l (findS l (sq l (yAt l i).id n)).toNat).kind), .v (.string (yAt l (findS l (sq l (yAt l i).id n)).toNat).name), .v (.int .i64 (yAt l (findS l (sq l (yAt l i).id n)).toNat).base), .v (.int .i64 (yAt l (findS l (sq l (yAt l i).id n)).toNat).next), .sl 2 (encP (yAt l (findS l (sq l (yAt l i).id n)).toNat).props)]]
          refine TC.seq ?_; refine TC.seq ?_; refine TC.region ?_
          first | refine TL.run1 (pure_fieldAddr Ty.f28_3 rfl (.succ (.succ (.succ (.zero _)))) (List.cons_ne_nil _ _)) rfl ?_ | refine TL.run1 (pure_fieldAddr_own Ty.f28_3 rfl) rfl ?_
          first | refine TL.run1 (pure_load1 Ty.one3 rfl) rfl ?_ | refine TL.run1 (pure_load1_own Ty.one3 rfl (by repeat (first | exact List.Mem.head _ | apply List.Mem.tail)) (by repeat (first | exact DropR.zero _ | apply DropR.succ))) rfl ?_
          refine TL.run1 (pure_neq rfl rfl) rfl ?_; refine TL.nil' ?_
          first | refine TC.condD rfl (fun hc74 => ?_) (fun hc74 => ?_) | refine TC.condN rfl (fun hc74 => ?_) (fun hc74 => ?_) | refine TC.cond rfl (fun hc74 => ?_) (fun hc74 => ?_)
          · try dsimp only at hc74
            have hnz : sq l (yAt l i).id (n + 1) ≠ 0 := by rw [sq]; exact hc74
            have hfd := sq_found hlk (id := (yAt l i).id) (.inr (by omega)) (n + 1) hnz (fun j hj => h6 j (by omega))
            have hsq : sq l (yAt l i).id (n + 1) = (yAt l (findS l (sq l (yAt l i).id n)).toNat).base := rfl
            rw [hsq] at hfd
            have hfr := findS_range l (yAt l (findS l (sq l (yAt l i).id n)).toNat).base
            have hrw := encSs_get l (findS l (yAt l (findS l (sq l (yAt l i).id n)).toNat).base).toNat (by omega)
            rw [show (((findS l (yAt l (findS l (sq l (yAt l i).id n)).toNat).base).toNat : Nat) : Int) = findS l (yAt l (findS l (sq l (yAt l i).id n)).toNat).base by omega] at hrw
            refine TC.skip' ?_; refine TC.seq ?_; refine TC.block ?_; refine TC.seq ?_; refine TC.seq ?_; refine TC.region ?_; refine TL.run1 (pure_move rfl) rfl ?_; refine TL.run1 (pure_move rfl) rfl ?_
            first | refine TL.run1 (pure_len Ty.sl22 rfl) rfl ?_ | refine TL.run1 (pure_len_row Ty.sl22 rfl (by repeat (first | exact List.Mem.head _ | apply List.Mem.tail))) rfl ?_ | refine TL.run1 (pure_len_nil Ty.sl22 rfl) rfl ?_
            refine TL.run1 (pure_eql rfl rfl) rfl ?_; refine TL.nil' ?_
            first | refine TC.condD rfl (fun hc80 => ?_) (fun hc80 => ?_) | refine TC.condN rfl (fun hc80 => ?_) (fun hc80 => ?_) | refine TC.cond rfl (fun hc80 => ?_) (fun hc80 => ?_)
            · try dsimp only at hc80
              have hcy : cycP l i := fun k hk2 => h6 k (by omega)
              refine TC.seq ?_; refine TC.region ?_; refine TL.run1 (pure_assign rfl) rfl ?_; refine TL.nil' ?_; refine TC.ret ?_; refine then_ret ?_; refine block_ret ?_; refine then_ret ?_; refine loop_ret ?_; refine block_ret ?_; refine block_ret ?_; refine then_ret ?_; refine loop_ret ?_; refine block_ret ?_; refine then_ret ?_
              exact ret_int rfl (by rw [← checkS_cyc h0 hown hbad (by omega) hcy])
            · try dsimp only at hc80
              refine TC.skip' ?_; refine TC.region ?_; refine TL.run1 (pure_move rfl) rfl ?_; refine TL.run1 (pure_move rfl) rfl ?_
              first | refine TL.run1 (pure_fieldAddr Ty.f28_3 rfl (.succ (.succ (.succ (.zero _)))) (List.cons_ne_nil _ _)) rfl ?_ | refine TL.run1 (pure_fieldAddr_own Ty.f28_3 rfl) rfl ?_
              first | refine TL.run1 (pure_load1 Ty.one3 rfl) rfl ?_ | refine TL.run1 (pure_load1_own Ty.one3 rfl (by repeat (first | exact List.Mem.head _ | apply List.Mem.tail)) (by repeat (first | exact DropR.zero _ | apply DropR.succ))) rfl ?_
              refine TL.run1 (pure_call (RFind_spec l (yAt l (findS l (sq l (yAt l i).id n)).toNat).base hl) (.cons rfl (.cons rfl .nil)) Try.call26) rfl ?_; refine TL.run1 (pure_indexAddr Ty.sl22 rfl rfl (by omega) hrw (List.cons_ne_nil _ _)) rfl ?_
              first | refine TL.run1 (pure_load Ty.agg28 rfl (.succ (.succ (.succ (.succ (.succ (.succ (.zero _)))))))) rfl ?_ | refine TL.run1 (pure_load_own Ty.agg28 rfl (by repeat (first | exact List.Mem.head _ | apply List.Mem.tail)) (by repeat (first | exact DropR.zero _ | apply DropR.succ)) (.succ (.succ (.succ (.succ (.succ (.succ (.zero _)))))))) rfl ?_
              refine TL.store rfl rfl (.agg _) Try.sizeOf28 rfl (by repeat (first | exact UpdR.here _ | apply UpdR.there)) (by repeat (first | exact PutR.nil _ | apply PutR.here | apply PutR.skip)) ?_; refine TL.nil ?_; refine block_normal ?_; refine then_normal ?_; refine TC.region ?_; refine TL.run1 (pure_move rfl) rfl ?_; refine TL.run1 (pure_add rfl rfl (mkI64 (by omega) (by omega))) rfl ?_; refine TL.run1 (pure_assign rfl) rfl ?_; refine TL.nil ?_
              refine loop_next (n + 1) ⟨by ((try dsimp only); rw [show (((n + 1 : Nat)) : Int) = (n : Int) + 1 by omega]; repeat (first | exact Agree.nil | refine Agree.cons rfl ?_)), by (try dsimp only); rw [hsq]; repeat (first | exact List.nil_sublist _ | exact List.Sublist.refl _ | apply List.Sublist.cons_cons | apply List.Sublist.cons)⟩ ⟨by omega, fun k hk => by rcases Nat.lt_or_eq_of_le hk with h | h; exact h6 k (by omega); subst h; exact hnz⟩ (by omega)
          · try dsimp only at hc74
            have hz : sq l (yAt l i).id (n + 1) = 0 := by rw [sq]; exact Classical.not_not.1 hc74
            have hnc : ¬ cycP l i := fun hcy => sq_ever hlk (id := (yAt l i).id) (by omega) hcy (n + 1) hz
            refine TC.exit ?_; refine then_exit ?_; refine loop_exit ?_; refine block_here ?_; refine block_normal ?_; refine then_normal ?_; refine TC.region ?_; refine TL.run1 (pure_move rfl) rfl ?_; refine TL.run1 (pure_add rfl rfl (mkI64 (by omega) (by omega))) rfl ?_; refine TL.run1 (pure_assign rfl) rfl ?_; refine TL.nil ?_
            refine loop_next (i + 1) ⟨by ((try dsimp only); rw [show (((i + 1 : Nat)) : Int) = (i : Int) + 1 by omega]; repeat (first | exact Agree.nil | refine Agree.cons rfl ?_)), by repeat (first | exact List.nil_sublist _ | exact List.Sublist.refl _ | apply List.Sublist.cons_cons | apply List.Sublist.cons)⟩ ⟨by omega, fun j h => by rcases Nat.lt_or_eq_of_le (Nat.le_of_lt_succ h) with h | h; exact h4 j h; subst h; exact hnc⟩ (by omega)
        · try dsimp only at hc65
          refine TC.exit ?_; refine then_exit ?_; refine loop_exit ?_; refine block_here ?_; refine then_normal ?_; refine TC.seq ?_; refine TC.region ?_; refine TL.run1 (pure_assign rfl) rfl ?_; refine TL.nil' ?_; refine TC.ret ?_
          exact ret_int rfl (by rw [← checkS_ok h0 hown hbad (fun j hj => h4 j (by omega))])
end Go.Ob
set_option linter.unusedVariables false
set_option linter.unusedSimpArgs false
namespace Go.Ob
open Go.Proofs
/-! ### a row from which some elements are deleted in place -/
structure DelI (es : Nat) (E K X : List (List D)) (j : Nat) : Prop where
  len : X.length = E.length
  head : X.take K.length = K
  tail : X.drop j = E.drop j
  lt : K.length < j
  le : j ≤ E.length
  each : ∀ x ∈ X, x.length = es
theorem DelI.get {es : Nat} {E K X : List (List D)} {j : Nat} (h : DelI es E K X j) : X[j]? = E[j]? := by
  have := congrArg (fun l => l[0]?) h.tail
  simpa using this
theorem DelI.keep {es : Nat} {E K X : List (List D)} {j : Nat} (h : DelI es E K X j) {x : List D} (hx : E[j]? = some x) : DelI es E (K ++ [x]) (X.set K.length x) (j + 1) := by
  have hj : j < E.length := (List.getElem?_eq_some_iff.1 hx).1
  have hl := h.len; have hk := h.lt
  refine ⟨by rw [List.length_set]; exact hl, ?_, ?_, by rw [List.length_append]; simp; omega, hj, fun y hy => ?_⟩
  · rw [List.length_append, List.length_singleton, List.take_add_one, List.getElem?_set_self (by omega), List.take_set_of_le (Nat.le_refl _), h.head]; rfl
  · have h2 := congrArg (fun l => l.drop 1) h.tail
    simp only [List.drop_drop] at h2
    rw [List.drop_set_of_lt (by omega)]; exact h2
  · rcases List.mem_or_eq_of_mem_set hy with hy | rfl
    · exact h.each y hy
    · exact h.each _ (List.mem_of_getElem? (h.get.trans hx))
theorem DelI.skip {es : Nat} {E K X : List (List D)} {j : Nat} (h : DelI es E K X j) (hj : j < E.length) : DelI es E K X (j + 1) := by
  have h2 := congrArg (fun l => l.drop 1) h.tail
  simp only [List.drop_drop] at h2
  exact ⟨h.len, h.head, h2, by have := h.lt; omega, hj, h.each⟩
theorem DelI.start {es : Nat} {E : List (List D)} (he : ∀ x ∈ E, x.length = es) {i : Nat} (h : i < E.length) : DelI es E (E.take i) E (i + 1) :=
  ⟨rfl, by rw [List.length_take, Nat.min_eq_left (by omega)], rfl, by rw [List.length_take]; omega, h, he⟩
theorem putAll : ∀ {c ds : List D}, c.length = ds.length → PutR 0 ds c ds
  | [], [], _ => .nil _
  | c :: cs, d :: ds, h => .here (putAll (by simpa using h))
theorem take_cut {α : Type} (X Z T : List α) (i : Nat) (h : i ≤ X.length) : (X.take i ++ Z ++ T).take i = X.take i := by
  rw [List.append_assoc, List.take_append_of_le_length (by rw [List.length_take]; omega), List.take_take, Nat.min_self]
theorem fiP_pos (p : Int × Int → Bool) : ∀ (l : List (Int × Int)) (i : Nat), fiP p l i ≠ -1 → ∃ j, j < l.length ∧ fiP p l i = ((i + j : Nat) : Int) ∧ p (pAt l (j : Nat)) = true ∧ ∀ k : Nat, k < j → p (pAt l k) = false
  | [], _, h => by simp [fiP] at h
  | s :: l, i, h => by
    by_cases hp : p s = true
    · exact ⟨0, by simp, by rw [fiP, if_pos hp]; rfl, by simpa [pAt] using hp, fun k hk => by omega⟩
    · rw [fiP, if_neg hp] at h
      obtain ⟨j, h1, h2, h3, h4⟩ := fiP_pos p l (i + 1) h
      refine ⟨j + 1, by simpa using h1, by rw [fiP, if_neg hp, h2]; omega, by simpa [pAt] using h3, fun k hk => ?_⟩
      cases k with
      | zero => simpa [pAt] using hp
      | succ k => simpa [pAt] using h4 k (by omega)
theorem fiP_no (p : Int × Int → Bool) : ∀ (l : List (Int × Int)) (i : Nat), fiP p l i = -1 → ∀ x ∈ l, p x = false
  | [], _, _, j, hj => by simp at hj
  | s :: l, i, h, x, hx => by
    by_cases hp : p s = true
    · rw [fiP, if_pos hp] at h; omega
    · rw [fiP, if_neg hp] at h
      rcases List.mem_cons.1 hx with rfl | hx
      · simpa using hp
      · exact fiP_no p l (i + 1) h x hx
theorem flt_step (p : Int × Int → Bool) (ps : List (Int × Int)) (j : Nat) (h : j < ps.length) : (ps.take (j + 1)).filter (fun x => !p x) = (ps.take j).filter (fun x => !p x) ++ (if p (pAt ps j) = true then [] else [pAt ps j]) := by
  rw [takeN_snoc ps j h, List.filter_append]
  congr 1
  split
  · rename_i hp; simp [hp]
  · rename_i hp; simp [hp]
theorem flt_start (p : Int × Int → Bool) (ps : List (Int × Int)) (i : Nat) (h : i < ps.length) (hi : p (pAt ps i) = true) (hk : ∀ k : Nat, k < i → p (pAt ps k) = false) : (ps.take (i + 1)).filter (fun x => !p x) = ps.take i := by
  rw [flt_step p ps i h, if_pos hi, List.append_nil]
  refine List.filter_eq_self.2 fun x hx => ?_
  obtain ⟨k, hk2, rfl⟩ := List.getElem_of_mem hx
  rw [List.length_take] at hk2
  have := hk k (by omega)
  unfold pAt at this
  rw [Int.toNat_natCast] at this
  have hkl : k < ps.length := by omega
  simp only [List.getElem_take]
  simpa [hkl] using this
theorem flt_grp (g : Int) (ps : List (Int × Int)) : ps.filter (fun x => !offG g x) = grp g ps := by
  unfold grp offG
  congr 1; funext x; simp
theorem encP_flt_step (p : Int × Int → Bool) (ps : List (Int × Int)) (j : Nat) (h : j < ps.length) : encP ((ps.take (j + 1)).filter fun x => !p x) = encP ((ps.take j).filter fun x => !p x) ++ (if p (pAt ps j) = true then [] else [[.v (.int .i64 (pAt ps j).1), .v (.int .i64 (pAt ps j).2)]]) := by
  rw [flt_step p ps j h, encP_append]
  congr 1
  split <;> rfl
theorem encP_flt_start (p : Int × Int → Bool) (ps : List (Int × Int)) (i : Nat) (h : i < ps.length) (hi : p (pAt ps i) = true) (hk : ∀ k : Nat, k < i → p (pAt ps k) = false) : encP ((ps.take (i + 1)).filter fun x => !p x) = (encP ps).take i := by
  rw [flt_start p ps i h hi hk, encP_take]
theorem flt_none (p : Int × Int → Bool) (ps : List (Int × Int)) (h : fiP p ps 0 = -1) : ps.filter (fun x => !p x) = ps :=
  List.filter_eq_self.2 fun x hx => by rw [fiP_no p ps 0 h x hx]; rfl
set_option maxHeartbeats 1000000 in
set_option maxRecDepth 100000 in
theorem delP_spec (ps : List (Int × Int)) (gr : Int) (v : Value) (hl : ps.length ≤ 1000000) : CallD Try.prog 74 [.v v, .fn 76 [.at_ [.v (.int .i64 gr)]]] [.row v 38 2 (encP ps)] (fun r H' => ∃ v, r = .v v ∧ H' = [.row v 38 2 (encP (ps.filter fun x => !offG gr x))]) := by
  refine CallD.enter (n := 42) (rs := [.tmp 4]) Try.func74 rfl Try.ntmps74 Try.results74 rfl (fun w F => ?_)
  have hk := encP_len ps
  refine TC.seq ?_; refine TC.region ?_; refine TL.run1 (pure_assign rfl) rfl ?_; refine TL.nil' ?_; refine TC.seq ?_; refine TC.region ?_; refine TL.run1 (pure_move rfl) rfl ?_; refine TL.run1 (pure_move rfl) rfl ?_; refine TL.run1 (pure_callF (.cons rfl (.cons rfl .nil)) (.cons (.rowS (by repeat (first | exact List.Mem.head _ | apply List.Mem.tail)) (show (0 : Nat) < 2 by decide) (encP_each ps)) (.cons (.same _) .nil)) (idxP_spec ps gr hl) trivial Try.call87) rfl ?_; refine TL.run1 (pure_assign rfl) rfl ?_; refine TL.nil' ?_; refine TC.seq ?_; refine TC.seq ?_; refine TC.region ?_; refine TL.run1 (pure_move rfl) rfl ?_; refine TL.run1 (pure_eql rfl rfl) rfl ?_; refine TL.nil' ?_
  first | refine TC.condD rfl (fun hc12 => ?_) (fun hc12 => ?_) | refine TC.condN rfl (fun hc12 => ?_) (fun hc12 => ?_) | refine TC.cond rfl (fun hc12 => ?_) (fun hc12 => ?_)
  · try dsimp only at hc12
    refine TC.seq ?_; refine TC.region ?_; refine TL.run1 (pure_move rfl) rfl ?_; refine TL.run1 (pure_assign rfl) rfl ?_; refine TL.nil' ?_; refine TC.ret ?_; refine then_ret ?_
    exact retRow rfl (by repeat (first | exact List.Mem.head _ | apply List.Mem.tail)) (by rw [flt_none _ _ hc12])
  · try dsimp only at hc12
    obtain ⟨i, hil, hie, hip, hik⟩ := fiP_pos (offG gr) ps 0 hc12
    rw [Nat.zero_add] at hie
    refine TC.rowShape (List.Mem.head _) (fun hsh => ?_)
    rcases hsh with ⟨_, hnil⟩ | ⟨g, cap, rfl, hcap⟩
    · exfalso; rw [hnil] at hk; simp at hk; omega
    rw [hie]
    refine TC.skip' ?_; refine TC.seq ?_; refine TC.seq ?_; refine TC.region ?_; refine TL.run1 (pure_move rfl) rfl ?_; refine TL.run1 (pure_add rfl rfl (mkI64 (by omega) (by omega))) rfl ?_; refine TL.run1 (pure_assign rfl) rfl ?_; refine TL.nil' ?_; refine TC.block ?_; refine TC.loopX (X := Nat × List (List D)) (fun (j, X) => [(0, .v (RowV g (encP ps).length cap)), (1, .fn 76 [.at_ [.v (.int .i64 gr)]]), (5, .v (.int .i64 ((encP ((ps.take j).filter fun x => !offG gr x)).length : Nat))), (6, .v (.int .i64 j))]) (fun (j, X) => [.row (RowV g (encP ps).length cap) 38 2 X]) (fun (j, X) => (DelI 2 (encP ps) (encP ((ps.take j).filter fun x => !offG gr x)) X j)) (fun (j, X) => (encP ps).length - j) (i + 1, encP ps) ⟨by (try dsimp only); rw [encP_flt_start (offG gr) ps i hil hip hik, List.length_take, Nat.min_eq_left (by omega), show (((i + 1 : Nat)) : Int) = (i : Int) + 1 by omega]; repeat (first | exact Agree.nil | refine Agree.cons rfl ?_), by skip; repeat (first | exact List.nil_sublist _ | exact List.Sublist.refl _ | apply List.Sublist.cons_cons | apply List.Sublist.cons)⟩ ?_ ?_
    · skip
      (try dsimp only)
      rw [encP_flt_start (offG gr) ps i hil hip hik]
      exact DelI.start (encP_each ps) (by omega)
    rintro ⟨j, X⟩
    intro hd
    show TC _ _ _ (Env.of [(0, .v (RowV g (encP ps).length cap)), (1, .fn 76 [.at_ [.v (.int .i64 gr)]]), (5, .v (.int .i64 ((encP ((ps.take j).filter fun x => !offG gr x)).length : Nat))), (6, .v (.int .i64 j))]) [.row (RowV g (encP ps).length cap) 38 2 X]
    refine TC.seq ?_; refine TC.seq ?_; refine TC.region ?_; refine TL.run1 (pure_move rfl) rfl ?_; refine TL.run1 (pure_move rfl) rfl ?_; refine TL.run1 (pure_lenV Ty.sl26 rfl) rfl ?_; refine TL.run1 (pure_lss rfl rfl) rfl ?_; refine TL.nil' ?_
    first | refine TC.condD rfl (fun hc19 => ?_) (fun hc19 => ?_) | refine TC.condN rfl (fun hc19 => ?_) (fun hc19 => ?_) | refine TC.cond rfl (fun hc19 => ?_) (fun hc19 => ?_)
    · try dsimp only at hc19
      refine TC.skip' ?_; refine TC.seq ?_; refine TC.block ?_; refine TC.seq ?_
      have hj : j < (encP ps).length := by omega
      have hxl := hd.len
      have hklt := hd.lt
      have hx : (encP ps)[j]? = some [.v (.int .i64 (pAt ps j).1), .v (.int .i64 (pAt ps j).2)] := by (have := encP_getN ps j (by omega); rwa [Int.toNat_natCast] at this)
      have hxj : X[((j : Nat) : Int).toNat]? = some [.v (.int .i64 (pAt ps j).1), .v (.int .i64 (pAt ps j).2)] := by (rw [Int.toNat_natCast, hd.get]; exact hx)
      obtain ⟨c0, hc0⟩ : ∃ c0, X[((((encP ((ps.take j).filter fun x => !offG gr x)).length : Nat) : Int)).toNat]? = some c0 := ⟨_, List.getElem?_eq_getElem (by rw [Int.toNat_natCast]; omega)⟩
      have hcl := hd.each _ (List.mem_of_getElem? hc0)
      refine TC.region ?_; refine TL.run1 (pure_move rfl) rfl ?_; refine TL.run1 (pure_move rfl) rfl ?_
      refine TL.indexRow Ty.sl26 rfl rfl (by repeat (first | exact List.Mem.head _ | apply List.Mem.tail)) (by omega) (by omega) rfl (fun g24 hg24 => ?_)
      refine TL.run1 (pure_load_row (es := 2) (i := ((j : Nat) : Int).toNat) (o := 0) Ty.agg38 (show (0 : Nat) < 2 by decide) rfl hg24 (by repeat (first | exact List.Mem.head _ | apply List.Mem.tail)) (by omega) hxj (by repeat (first | exact DropR.zero _ | apply DropR.succ)) (.succ (.succ (.zero _)))) rfl ?_
      refine TL.alloc Ty.zero38 rfl (fun g7 => ?_)
      refine TL.store rfl rfl (.agg _) Try.sizeOf38 rfl (by repeat (first | exact UpdR.here _ | apply UpdR.there)) (by repeat (first | exact PutR.nil _ | apply PutR.here | apply PutR.skip)) ?_; refine TL.nil' ?_; refine TC.seq ?_; refine TC.region ?_; refine TL.run1 (pure_move rfl) rfl ?_
      first | refine TL.run1 (pure_load Ty.agg38 rfl (.succ (.succ (.zero _)))) rfl ?_ | refine TL.run1 (pure_load_own Ty.agg38 rfl (by repeat (first | exact List.Mem.head _ | apply List.Mem.tail)) (by repeat (first | exact DropR.zero _ | apply DropR.succ)) (.succ (.succ (.zero _)))) rfl ?_
      refine TL.run1 (pure_callv rfl (only1_spec (pAt ps j) gr) (.cons rfl .nil) Try.call76) rfl ?_; refine TL.run1 (pure_not rfl) rfl ?_; refine TL.nil' ?_
      first | refine TC.condD rfl (fun hc29 => ?_) (fun hc29 => ?_) | refine TC.condN rfl (fun hc29 => ?_) (fun hc29 => ?_) | refine TC.cond rfl (fun hc29 => ?_) (fun hc29 => ?_)
      · try dsimp only at hc29
        have hdl : ¬ (offG gr (pAt ps j)) = true := by first | exact hc29 | simpa using hc29 | simpa [offG] using hc29
        refine TC.seq ?_; refine TC.region ?_; refine TL.run1 (pure_move rfl) rfl ?_; refine TL.run1 (pure_move rfl) rfl ?_
        first | refine TL.run1 (pure_load Ty.agg38 rfl (.succ (.succ (.zero _)))) rfl ?_ | refine TL.run1 (pure_load_own Ty.agg38 rfl (by repeat (first | exact List.Mem.head _ | apply List.Mem.tail)) (by repeat (first | exact DropR.zero _ | apply DropR.succ)) (.succ (.succ (.zero _)))) rfl ?_
        refine TL.indexRow Ty.sl26 rfl rfl (by repeat (first | exact List.Mem.head _ | apply List.Mem.tail)) (by omega) (by omega) rfl (fun g33 hg33 => ?_)
        refine TL.storeRow (es := 2) (i := ((((encP ((ps.take j).filter fun x => !offG gr x)).length : Nat) : Int)).toNat) (o := 0) (c' := [.v (.int .i64 (pAt ps j).1), .v (.int .i64 (pAt ps j).2)]) rfl hg33 (by omega) rfl (.agg _) Try.sizeOf38 rfl (by repeat (first | exact UpdR.here _ | apply UpdR.there)) hc0 (putAll hcl) ?_
        rw [Int.toNat_natCast]
        refine TL.nil' ?_; refine TC.region ?_; refine TL.run1 (pure_move rfl) rfl ?_; refine TL.run1 (pure_add rfl rfl (mkI64 (by omega) (by omega))) rfl ?_; refine TL.run1 (pure_assign rfl) rfl ?_; refine TL.nil ?_; refine block_normal ?_; refine then_normal ?_; refine TC.region ?_; refine TL.run1 (pure_move rfl) rfl ?_; refine TL.run1 (pure_add rfl rfl (mkI64 (by omega) (by omega))) rfl ?_; refine TL.run1 (pure_assign rfl) rfl ?_; refine TL.nil ?_
        have hst := encP_flt_step (offG gr) ps j (by omega)
        rw [if_neg hdl] at hst
        have hkp := hd.keep hx
        rw [← hst] at hkp
        refine loop_next (j + 1, X.set (encP ((ps.take j).filter fun x => !offG gr x)).length [.v (.int .i64 (pAt ps j).1), .v (.int .i64 (pAt ps j).2)]) ⟨by ((try dsimp only); rw [hst, List.length_append, List.length_singleton, show ((((encP ((ps.take j).filter fun x => !offG gr x)).length + 1 : Nat)) : Int) = ((encP ((ps.take j).filter fun x => !offG gr x)).length : Int) + 1 by omega, show (((j + 1 : Nat)) : Int) = (j : Int) + 1 by omega]; repeat (first | exact Agree.nil | refine Agree.cons rfl ?_)), by repeat (first | exact List.nil_sublist _ | exact List.Sublist.refl _ | apply List.Sublist.cons_cons | apply List.Sublist.cons)⟩ hkp (by dsimp only; omega)
      · try dsimp only at hc29
        have hdl : (offG gr (pAt ps j)) = true := by first | exact hc29 | simpa using hc29 | simpa [offG] using hc29
        refine TC.skip ?_; refine block_normal ?_; refine then_normal ?_; refine TC.region ?_; refine TL.run1 (pure_move rfl) rfl ?_; refine TL.run1 (pure_add rfl rfl (mkI64 (by omega) (by omega))) rfl ?_; refine TL.run1 (pure_assign rfl) rfl ?_; refine TL.nil ?_
        have hst := encP_flt_step (offG gr) ps j (by omega)
        rw [if_pos hdl, List.append_nil] at hst
        have hkp := hd.skip hj
        rw [← hst] at hkp
        refine loop_next (j + 1, X) ⟨by ((try dsimp only); rw [hst, show (((j + 1 : Nat)) : Int) = (j : Int) + 1 by omega]; repeat (first | exact Agree.nil | refine Agree.cons rfl ?_)), by repeat (first | exact List.nil_sublist _ | exact List.Sublist.refl _ | apply List.Sublist.cons_cons | apply List.Sublist.cons)⟩ hkp (by dsimp only; omega)
    · try dsimp only at hc19
      have hje : j = (encP ps).length := by (have := hd.le; omega)
      have hxl := hd.len
      have hklt := hd.lt
      refine TC.exit ?_; refine then_exit ?_; refine loop_exit ?_; refine block_here ?_; refine then_normal ?_; refine TC.seq ?_; refine TC.region ?_; refine TL.run1 (pure_move rfl) rfl ?_; refine TL.run1 (pure_move rfl) rfl ?_; refine TL.run1 (pure_sliceV (l := (encP ((ps.take j).filter fun x => !offG gr x)).length) (h := (encP ps).length) (m := cap) Ty.sl26 rfl rfl ⟨rfl, rfl⟩ rfl (by omega) (by omega) (by omega)) rfl ?_
      rw [if_neg (show ¬ cap = (encP ((ps.take j).filter fun x => !offG gr x)).length by omega)]
      refine TL.clearRow (g := g) (p := (encP ((ps.take j).filter fun x => !offG gr x)).length) (m := (encP ps).length - (encP ((ps.take j).filter fun x => !offG gr x)).length) (n := (encP ps).length) (n' := (encP ps).length) (cap := cap) Ty.app26 Ty.zero38 rfl rfl (by omega) (by omega) (by repeat (first | exact UpdR.here _ | apply UpdR.there)) (by simp only [List.length_append, List.length_take, List.length_drop, List.length_replicate]; omega) (by omega) (by omega) ?_; refine TL.nil' ?_; refine TC.seq ?_; refine TC.shrink (g := g) (k := (encP ((ps.take j).filter fun x => !offG gr x)).length) (by repeat (first | exact UpdR.here _ | apply UpdR.there)) (by simp only [List.length_append, List.length_take, List.length_drop, List.length_replicate]; omega) ?_; refine TC.region ?_; refine TL.run1 (pure_move rfl) rfl ?_; refine TL.run1 (pure_move rfl) rfl ?_; refine TL.run1 (pure_sliceV (l := 0) (h := (encP ((ps.take j).filter fun x => !offG gr x)).length) (m := cap) Ty.sl26 rfl rfl rfl rfl (by omega) (by omega) (by omega)) rfl ?_
      rw [ite_self]
      refine TL.run1 (pure_assign rfl) rfl ?_; refine TL.nil' ?_; refine TC.ret ?_
      exact retRow (e := 38) (es := 2) rfl (by repeat (first | exact List.Mem.head _ | apply List.Mem.tail)) (by rw [take_cut _ _ _ _ (by omega), hd.head]; rw [hje, hk, List.take_length])
end Go.Ob
set_option linter.unusedVariables false
set_option linter.unusedSimpArgs false
namespace Go.Ob
open Go.Proofs
/-! ### a style's chain: one kind -/
theorem sq_kind {l : List Sty} (h : Good l) {id kind : Int} (h0 : isP l kind id) : ∀ k, k < chN l id → (yF l (sq l id k)).kind = kind
  | 0, _ => h0.2
  | k + 1, hk => by
    have h1 := sq_kind h h0 k (by omega)
    obtain ⟨hc, _⟩ := h.chain (.inr h0.1)
    have hne := (hc.on (k + 1) hk).1
    rw [sq] at hne
    rcases h.links _ (h.on (.inr h0.1) k (by omega)) with h2 | h2
    · exact absurd h2 hne
    · rw [sq]; unfold yF at h1 ⊢; rw [h1] at h2; exact h2.2
theorem groups1 (e : Int) (he : e = 1) : groupsOf e = [1] := by unfold groupsOf; rw [if_pos (.inl he)]
theorem checkP_grp1 {ps : List (Int × Int)} (h : checkP 1 ps = 0) : ∀ p ∈ ps, (findK p.1).group = 1 := fun p hp => by
  have h1 := (fits_key (((checkP_iff (by omega) (by omega) ps).1 h).2 p hp).1).2
  rw [groups1 1 rfl] at h1; simpa using h1
theorem eff_char {l : List Sty} (h : Good l) {id : Int} (h0 : id = 0 ∨ isP l 2 id) : grp 1 (effP l id) = effP l id := by
  rcases h0 with rfl | h0
  · unfold effP; rw [chN_eq (sq_zero l) (Nat.zero_le _)]; rfl
  · refine grp_id fun p hp => ?_
    obtain ⟨j, h1, h2⟩ := efQ_mem (h.efQ (.inr h0.1)) _ (Nat.le_refl _) p hp
    have hk := sq_kind h h0 j h1
    have hw := (h.own _ (h.on (.inr h0.1) j h1)).props
    unfold yF at hk h2
    rw [hk, if_neg (by omega)] at hw
    exact checkP_grp1 hw p h2
/-! ### what the functions return -/
def foundE (l : List Sty) (id : Int) : Int := if checkS l ≠ 0 then checkS l else if 0 ≤ findS l id then 0 else 8
def foundV (l : List Sty) (id : Int) : Sty := if checkS l = 0 ∧ 0 ≤ findS l id then yF l id else sty0
def namE (l : List Sty) (ps : List (Int × Int)) (key kind : Int) : Int := if getP ps key 0 ≠ 0 ∧ ¬ isP l kind (getP ps key 0) then 25 else 0
def namV (l : List Sty) (ps : List (Int × Int)) (key kind : Int) : List (Int × Int) := if getP ps key 0 ≠ 0 ∧ ¬ isP l kind (getP ps key 0) then [] else effP l (getP ps key 0)
def paraE (l : List Sty) (ow : List (Int × Int)) : Int := if checkS l ≠ 0 then checkS l else if checkP 2 ow ≠ 0 then checkP 2 ow else namE l ow 20 1
def paraV (l : List Sty) (ow : List (Int × Int)) : List (Int × Int) := if paraE l ow = 0 then grp 2 (mergeP (effP l (getP ow 20 0)) ow) else []
def textE (l : List Sty) (pa ow : List (Int × Int)) : Int := if checkS l ≠ 0 then checkS l else if checkP 2 pa ≠ 0 then checkP 2 pa else if checkP 1 ow ≠ 0 then checkP 1 ow else if namE l pa 20 1 ≠ 0 then namE l pa 20 1 else namE l ow 1 2
def textV (l : List Sty) (pa ow : List (Int × Int)) : List (Int × Int) := if textE l pa ow = 0 then grp 1 (mergeP (mergeP (effP l (getP pa 20 0)) (effP l (getP ow 1 0))) ow) else []
theorem namE_ok {l : List Sty} {ps : List (Int × Int)} {key kind : Int} (h : namE l ps key kind = 0) : getP ps key 0 = 0 ∨ isP l kind (getP ps key 0) := by
  unfold namE at h
  by_cases hc : getP ps key 0 ≠ 0 ∧ ¬ isP l kind (getP ps key 0)
  · rw [if_pos hc] at h; omega
  · by_cases h0 : getP ps key 0 = 0
    · exact .inl h0
    · exact .inr (Classical.byContradiction fun e => hc ⟨h0, e⟩)
theorem namE_find {l : List Sty} {ps : List (Int × Int)} {key kind : Int} (h : namE l ps key kind = 0) : getP ps key 0 = 0 ∨ 0 ≤ findS l (getP ps key 0) := (namE_ok h).imp id fun h => h.1
theorem namV_ok {l : List Sty} {ps : List (Int × Int)} {key kind : Int} (h : namE l ps key kind = 0) : namV l ps key kind = effP l (getP ps key 0) := by
  unfold namE at h; unfold namV
  by_cases hc : getP ps key 0 ≠ 0 ∧ ¬ isP l kind (getP ps key 0)
  · rw [if_pos hc] at h; omega
  · rw [if_neg hc]
theorem mergeP_len90 {a b : List (Int × Int)} (ha : GoodP a) (hb : GoodP b) : (mergeP a b).length ≤ 45 := (ha.merge hb).len
set_option maxRecDepth 100000 in
theorem only_spec (l : List (Int × Int)) (gr : Int) (hl : l.length ≤ 1000000) : Fun Try.prog 51 [.sl 2 (encP l), .v (.int .i64 gr)] (.sl 2 (encP (grp gr l))) := by
  refine Fun.enterF (n := 9) (rs := [.tmp 4]) Try.func51 rfl Try.ntmps51 Try.results51 rfl (fun w F => ?_)
  refine TC.seq ?_; refine TC.region ?_
  refine TL.box rfl (.one rfl) rfl (fun g3 => ?_)
  refine TL.run1 (pure_assign rfl) rfl ?_; refine TL.nil' ?_; refine TC.seq ?_; refine TC.freezeBox 3 (List.cons_ne_nil _ _) (.here _) rfl ?_; refine TC.region ?_; refine TL.run1 (pure_move rfl) rfl ?_; refine TL.callD (SplitR.none _) (Clone_spec l hl) (.cons rfl .nil) Try.call75 (fun t ht => by cases ht; exact of_decide_eq_true rfl) ?_
  rintro r2 H2 ⟨v1, rfl, rfl⟩
  simp only [List.cons_append, List.nil_append]
  refine TL.run1 (pure_makeFunc (.cons rfl .nil)) rfl ?_; refine TL.callD (SplitR.all _) (delP_spec l gr v1 hl) (.cons rfl (.cons rfl .nil)) Try.call74 (fun t ht => by cases ht; exact of_decide_eq_true rfl) ?_
  rintro r2 H2 ⟨v2, rfl, rfl⟩
  simp only [List.cons_append, List.nil_append, List.append_nil]
  refine TL.run1 (pure_assign rfl) rfl ?_; refine TL.nil' ?_; refine TC.ret ?_
  exact retF_row rfl (by repeat (first | exact List.Mem.head _ | apply List.Mem.tail)) (show (0 : Nat) < 2 by decide) (encP_each _) (by rw [flt_grp])
set_option maxRecDepth 100000 in
theorem found_spec (l : List Sty) (id : Int) (hl : l.length ≤ 1000000) (hn : ∀ i, i < l.length → (yAt l i).name.size ≤ 1000000000) (hp : ∀ i, i < l.length → (yAt l i).props.length ≤ 1000000) : Fun Try.prog 58 [.sl 6 (encSs l), .v (.int .i64 id)] (.tup [.agg [.v (.int .i64 (foundV l id).id), .v (.int .i64 (foundV l id).kind), .v (.string (foundV l id).name), .v (.int .i64 (foundV l id).base), .v (.int .i64 (foundV l id).next), .sl 2 (encP (foundV l id).props)], .v (.int .i64 (foundE l id))]) := by
  refine Fun.enter (n := 28) (rs := [.cell 4 28, .tmp 5]) Try.func58 rfl Try.ntmps58 Try.results58 rfl (fun w F => ?_)
  refine TC.seq ?_; refine TC.region ?_
  refine TL.alloc Ty.zero28 rfl (fun g4 => ?_)
  refine TL.run1 (pure_assign rfl) rfl ?_; refine TL.nil' ?_; refine TC.seq ?_; refine TC.seq ?_; refine TC.region ?_; refine TL.run1 (pure_move rfl) rfl ?_; refine TL.run1 (pure_call (SCheck_spec l hl hn hp) (.cons rfl .nil) Try.call15) rfl ?_; refine TL.run1 (pure_assign rfl) rfl ?_; refine TL.nil' ?_; refine TC.seq ?_; refine TC.region ?_; refine TL.run1 (pure_move rfl) rfl ?_; refine TL.run1 (pure_neq rfl rfl) rfl ?_; refine TL.nil' ?_
  first | refine TC.condD rfl (fun hc12 => ?_) (fun hc12 => ?_) | refine TC.condN rfl (fun hc12 => ?_) (fun hc12 => ?_) | refine TC.cond rfl (fun hc12 => ?_) (fun hc12 => ?_)
  · try dsimp only at hc12
    refine TC.seq ?_; refine TC.region ?_; refine TL.run1 (pure_build Ty.pl28 Ty.zero28 (.nil _)) rfl ?_; refine TL.le 13 rfl (Le.agg (.cons (Le.refl _) (.cons (Le.refl _) (.cons (Le.refl _) (.cons (Le.refl _) (.cons (Le.refl _) (.cons (Le.nil 2) .nil))))))) ?_; refine TL.run1 (pure_move rfl) rfl ?_; refine TL.store rfl rfl (.agg _) Try.sizeOf28 rfl (by repeat (first | exact UpdR.here _ | apply UpdR.there)) (by repeat (first | exact PutR.nil _ | apply PutR.here | apply PutR.skip)) ?_; refine TL.run1 (pure_assign rfl) rfl ?_; refine TL.nil' ?_; refine TC.ret ?_; refine then_ret ?_; refine ret_cell_tmp (.inl rfl) Ty.agg28 rfl (by repeat (first | exact List.Mem.head _ | apply List.Mem.tail)) rfl rfl ?_
    unfold foundV foundE; rw [if_neg (fun h => hc12 h.1), if_pos hc12]; rfl
  · try dsimp only at hc12
    have hz : checkS l = 0 := Classical.not_not.1 hc12
    refine TC.skip' ?_; refine TC.seq ?_; refine TC.region ?_; refine TL.run1 (pure_move rfl) rfl ?_; refine TL.run1 (pure_move rfl) rfl ?_; refine TL.run1 (pure_call (SFind_spec l id hl) (.cons rfl (.cons rfl .nil)) Try.call24) rfl ?_; refine TL.run1 (pure_move rfl) rfl ?_; refine TL.run1 (pure_extract rfl rfl) rfl ?_; refine TL.run1 (pure_extract rfl rfl) rfl ?_; refine TL.run1 (pure_assign rfl) rfl ?_; refine TL.run1 (pure_assign rfl) rfl ?_; refine TL.nil' ?_; refine TC.seq ?_; refine TC.seq ?_; refine TC.region ?_; refine TL.run1 (pure_move rfl) rfl ?_; refine TL.run1 (pure_not rfl) rfl ?_; refine TL.nil' ?_
    first | refine TC.condD rfl (fun hc22 => ?_) (fun hc22 => ?_) | refine TC.condN rfl (fun hc22 => ?_) (fun hc22 => ?_) | refine TC.cond rfl (fun hc22 => ?_) (fun hc22 => ?_)
    · try dsimp only at hc22
      have hfd : ¬ 0 ≤ findS l id := by simpa using hc22
      refine TC.seq ?_; refine TC.region ?_; refine TL.run1 (pure_build Ty.pl28 Ty.zero28 (.nil _)) rfl ?_; refine TL.le 23 rfl (Le.agg (.cons (Le.refl _) (.cons (Le.refl _) (.cons (Le.refl _) (.cons (Le.refl _) (.cons (Le.refl _) (.cons (Le.nil 2) .nil))))))) ?_; refine TL.store rfl rfl (.agg _) Try.sizeOf28 rfl (by repeat (first | exact UpdR.here _ | apply UpdR.there)) (by repeat (first | exact PutR.nil _ | apply PutR.here | apply PutR.skip)) ?_; refine TL.run1 (pure_assign rfl) rfl ?_; refine TL.nil' ?_; refine TC.ret ?_; refine then_ret ?_; refine ret_cell_tmp (.inl rfl) Ty.agg28 rfl (by repeat (first | exact List.Mem.head _ | apply List.Mem.tail)) rfl rfl ?_
      unfold foundV foundE; rw [if_neg (fun h => hfd h.2), if_neg hc12, if_neg hfd]; rfl
    · try dsimp only at hc22
      have hfd : 0 ≤ findS l id := by simpa using hc22
      have hfr := findS_range l id
      have hrow := encSs_get l (findS l id).toNat (by omega)
      rw [show (((findS l id).toNat : Nat) : Int) = max (findS l id) 0 by omega] at hrow
      have hk := encSs_len l
      refine TC.skip' ?_; refine TC.seq ?_; refine TC.region ?_; refine TL.run1 (pure_move rfl) rfl ?_; refine TL.run1 (pure_move rfl) rfl ?_; refine TL.run1 (pure_indexAddr Ty.sl22 rfl rfl (by omega) hrow (List.cons_ne_nil _ _)) rfl ?_
      first | refine TL.run1 (pure_load Ty.agg28 rfl (.succ (.succ (.succ (.succ (.succ (.succ (.zero _)))))))) rfl ?_ | refine TL.run1 (pure_load_own Ty.agg28 rfl (by repeat (first | exact List.Mem.head _ | apply List.Mem.tail)) (by repeat (first | exact DropR.zero _ | apply DropR.succ)) (.succ (.succ (.succ (.succ (.succ (.succ (.zero _)))))))) rfl ?_
      refine TL.store rfl rfl (.agg _) Try.sizeOf28 rfl (by repeat (first | exact UpdR.here _ | apply UpdR.there)) (by repeat (first | exact PutR.nil _ | apply PutR.here | apply PutR.skip)) ?_; refine TL.run1 (pure_assign rfl) rfl ?_; refine TL.nil' ?_; refine TC.ret ?_; refine ret_cell_tmp (.inl rfl) Ty.agg28 rfl (by repeat (first | exact List.Mem.head _ | apply List.Mem.tail)) rfl rfl ?_
      unfold foundV foundE yF; rw [if_pos ⟨hz, hfd⟩, if_neg hc12, if_pos hfd]; rfl
set_option maxRecDepth 100000 in
theorem effective_spec (l : List Sty) (id : Int) (hg : Good l) (h0 : id = 0 ∨ 0 ≤ findS l id) : Fun Try.prog 59 [.sl 6 (encSs l), .v (.int .i64 id)] (.sl 2 (encP (effP l id))) := by
  refine Fun.enter (n := 16) (rs := [.tmp 4]) Try.func59 rfl Try.ntmps59 Try.results59 rfl (fun w F => ?_)
  refine TC.seq ?_; refine TC.region ?_; refine TL.run1 (pure_assign rfl) rfl ?_; refine TL.nil' ?_; refine TC.seq ?_; refine TC.region ?_
  refine TL.alloc Ty.zero26 rfl (fun g5 => ?_)
  refine TL.nil' ?_; refine TC.seq ?_; refine TC.seq ?_; refine TC.region ?_; refine TL.run1 (pure_move rfl) rfl ?_; refine TL.run1 (pure_move rfl) rfl ?_; refine TL.callD (SplitR.none _) (chain_spec l id) (.cons rfl (.cons rfl .nil)) Try.call46 (fun t ht => by cases ht; exact of_decide_eq_true rfl) ?_
  rintro r2 H2 ⟨g, rfl, rfl⟩
  simp only [List.cons_append, List.nil_append]
  refine TL.nil' ?_; refine TC.block ?_; refine TC.rangeFuncC (pre := [.at_ [.sl 6 (encSs l)]]) (xs := (chD l id (chN l id))) rfl rfl Try.call70 (chain_seq l id (chN l id) g hg.inc (by have := hg.len; omega) (hg.chain h0).1.on) (fun k H => ∃ d, Le d (.sl 2 (encP (efQ l id k))) ∧ List.Sublist [Blk.box g5 26 [d]] H) (fun _ _ => False) ⟨_, Le.nil 2, List.Sublist.refl _⟩ (.inl (hg.chain h0).1.off) ?_ (by rfl) ?_ ?_ ?_ ?_
  · skip
    intro x hx
    unfold chD at hx
    obtain ⟨k, _, rfl⟩ := List.mem_map.1 hx
    rfl
  · skip
    rintro k x Hc w F S lr hx ⟨d, hle, hsub⟩
    refine TC.forget (fun _ _ h => h) hsub ?_
    have hkN : k < chN l id := by have := (List.getElem?_eq_some_iff.1 hx).1; rwa [chD_len] at this
    obtain rfl : x = [.agg [.v (.int .i64 (yF l (sq l id k)).id), .v (.int .i64 (yF l (sq l id k)).kind), .v (.string (yF l (sq l id k)).name), .v (.int .i64 (yF l (sq l id k)).base), .v (.int .i64 (yF l (sq l id k)).next), .sl 2 (encP (yF l (sq l id k)).props)]] := by (rw [chD_get _ _ _ _ hkN] at hx; exact (Option.some.inj hx).symm)
    have hpk := hg.efQ h0 k hkN
    have hgk := (efQ_spec (hg.efQ h0) k (by omega)).1
    have hpl : (yF l (sq l id k)).props.length ≤ 1000000 := by (have := hpk.len; omega)
    refine TC.region ?_
    refine TL.alloc Ty.zero28 rfl (fun g6 => ?_)
    refine TL.store rfl rfl (.agg _) Try.sizeOf28 rfl (by repeat (first | exact UpdR.here _ | apply UpdR.there)) (by repeat (first | exact PutR.nil _ | apply PutR.here | apply PutR.skip)) ?_; refine TL.nil ?_
    refine ⟨rfl, fun w F S => ?_⟩
    refine TC.block ?_; refine TC.region ?_
    first | refine TL.run1 (pure_fieldAddr Ty.f28_5 rfl (.succ (.succ (.succ (.succ (.succ (.zero _)))))) (List.cons_ne_nil _ _)) rfl ?_ | refine TL.run1 (pure_fieldAddr_own Ty.f28_5 rfl) rfl ?_
    first | refine TL.run1 (pure_load1 Ty.one26 rfl) rfl ?_ | refine TL.run1 (pure_load1_own Ty.one26 rfl (by repeat (first | exact List.Mem.head _ | apply List.Mem.tail)) (by repeat (first | exact DropR.zero _ | apply DropR.succ))) rfl ?_
    refine TL.run1 (pure_load1_own Ty.one26 rfl (by repeat (first | exact List.Mem.head _ | apply List.Mem.tail)) (by repeat (first | exact DropR.zero _ | apply DropR.succ))) rfl ?_; refine TL.le 13 rfl hle ?_; refine TL.run1 (pure_call (Merge_spec (yF l (sq l id k)).props (efQ l id k) hpl (by have := hgk.len; omega)) (.cons rfl (.cons rfl .nil)) Try.call52) rfl ?_; refine TL.store rfl rfl (.one (by first | rfl | assumption)) Try.sizeOf26 rfl (by repeat (first | exact UpdR.here _ | apply UpdR.there)) (by repeat (first | exact PutR.nil _ | apply PutR.here | apply PutR.skip)) ?_; refine TL.nil ?_; refine block_normal ?_
    exact ⟨_, Le.refl _, by repeat (first | exact List.nil_sublist _ | exact List.Sublist.refl _ | apply List.Sublist.cons_cons | apply List.Sublist.cons)⟩
  · skip
    rintro Hc ⟨d, hle, hsub⟩
    rw [chD_len] at hle
    refine block_normal ?_; refine then_normal ?_; refine TC.seq ?_; refine TC.forget (fun _ _ h => h) hsub ?_; refine TC.region ?_; refine TL.run1 (pure_load1_own Ty.one26 rfl (by repeat (first | exact List.Mem.head _ | apply List.Mem.tail)) (by repeat (first | exact DropR.zero _ | apply DropR.succ))) rfl ?_; refine TL.le 15 rfl hle ?_; refine TL.run1 (pure_assign rfl) rfl ?_; refine TL.nil' ?_; refine TC.ret ?_
    exact ret_sl rfl rfl
  · skip
    first | exact fun _ h => h.elim | exact fun _ _ h => h.elim
  · skip
    first | exact fun _ h => h.elim | exact fun _ _ h => h.elim
set_option maxRecDepth 100000 in
theorem named_spec (l : List Sty) (ps : List (Int × Int)) (key kind : Int) (hg : Good l) (hps : GoodP ps) : Fun Try.prog 50 [.sl 6 (encSs l), .sl 2 (encP ps), .v (.int .i64 key), .v (.int .i64 kind)] (.tup [.sl 2 (encP (namV l ps key kind)), .v (.int .i64 (namE l ps key kind))]) := by
  refine Fun.enter (n := 30) (rs := [.tmp 8, .tmp 9]) Try.func50 rfl Try.ntmps50 Try.results50 rfl (fun w F => ?_)
  refine TC.seq ?_; refine TC.region ?_; refine TL.run1 (pure_assign rfl) rfl ?_; refine TL.run1 (pure_assign rfl) rfl ?_; refine TL.nil' ?_; refine TC.seq ?_; refine TC.region ?_; refine TL.run1 (pure_move rfl) rfl ?_; refine TL.run1 (pure_move rfl) rfl ?_; refine TL.run1 (pure_call (getPr_spec ps key hps.1 (by have := hps.len; omega)) (.cons rfl (.cons rfl .nil)) Try.call66) rfl ?_; refine TL.run1 (pure_move rfl) rfl ?_; refine TL.run1 (pure_extract rfl rfl) rfl ?_; refine TL.run1 (pure_extract rfl rfl) rfl ?_; refine TL.run1 (pure_assign rfl) rfl ?_; refine TL.run1 (pure_assign rfl) rfl ?_; refine TL.nil' ?_; refine TC.seq ?_; refine TC.regionCut [18, 19, 20, 21, 22, 23, 24, 25, 26] 26 ((getP ps key 0) ≠ 0 ∧ ¬ isP l kind (getP ps key 0)) ?_ ?_
  · skip
    refine TL.run1 (pure_move rfl) rfl ?_; refine TL.run1 (pure_neq rfl rfl) rfl ?_; refine TL.run1 (pure_move rfl) rfl ?_
    first | refine TL.splitP 20 rfl (fun hg20 => ?_) (fun hg20 => ?_) | refine TL.split 20 rfl (fun hg20 => ?_) (fun hg20 => ?_)
    · try dsimp only at hg20
      refine TL.runG rfl rfl (pure_move rfl) rfl ?_; refine TL.runG rfl rfl (pure_move rfl) rfl ?_; refine TL.runG rfl rfl (pure_move rfl) rfl ?_; refine TL.runG rfl rfl (pure_call (is_spec l kind (getP ps key 0) (by have := hg.len; omega)) (.cons rfl (.cons rfl (.cons rfl .nil))) Try.call45) rfl ?_; refine TL.runG rfl rfl (pure_not rfl) rfl ?_; refine TL.run1 (pure_pick_true rfl rfl) rfl ?_; refine TL.cutEnd (by repeat (first | exact Same.refl _ _ | refine Same.put rfl ?_)) rfl ?_
      first | (simp_all; done) | grind
    · try dsimp only at hg20
      refine TL.passG rfl rfl rfl rfl ?_; refine TL.passG rfl rfl rfl rfl ?_; refine TL.passG rfl rfl rfl rfl ?_; refine TL.passG rfl rfl rfl rfl ?_; refine TL.passG rfl rfl rfl rfl ?_; refine TL.run1 (pure_pick_false rfl rfl) rfl ?_; refine TL.cutEnd (by repeat (first | exact Same.refl _ _ | refine Same.put rfl ?_)) rfl ?_
      first | (simp_all; done) | grind
  first | refine TC.condD rfl (fun hc26 => ?_) (fun hc26 => ?_) | refine TC.condN rfl (fun hc26 => ?_) (fun hc26 => ?_) | refine TC.cond rfl (fun hc26 => ?_) (fun hc26 => ?_)
  · try dsimp only at hc26
    refine TC.seq ?_; refine TC.region ?_; refine TL.run1 (pure_assign rfl) rfl ?_; refine TL.le 8 rfl (Le.nil 2) ?_; refine TL.run1 (pure_assign rfl) rfl ?_; refine TL.nil' ?_; refine TC.ret ?_; refine then_ret ?_; refine ret2 (.inl rfl) rfl rfl ?_
    unfold namV namE; rw [if_pos hc26, if_pos hc26]; rfl
  · try dsimp only at hc26
    have hz : namE l ps key kind = 0 := by (unfold namE; rw [if_neg hc26])
    have h0 := namE_find hz
    refine TC.skip' ?_; refine TC.seq ?_; refine TC.region ?_; refine TL.run1 (pure_move rfl) rfl ?_; refine TL.run1 (pure_move rfl) rfl ?_; refine TL.run1 (pure_call (effective_spec l (getP ps key 0) hg h0) (.cons rfl (.cons rfl .nil)) Try.call59) rfl ?_; refine TL.run1 (pure_assign rfl) rfl ?_; refine TL.run1 (pure_assign rfl) rfl ?_; refine TL.nil' ?_; refine TC.ret ?_; refine ret2 (.inl rfl) rfl rfl ?_
    rw [hz, namV_ok hz]
end Go.Ob
set_option linter.unusedVariables false
set_option linter.unusedSimpArgs false
namespace Go.Ob
open Go.Proofs

theorem paraE_ok {l : List Sty} {ow : List (Int × Int)} (h : paraE l ow = 0) : checkS l = 0 ∧ checkP 2 ow = 0 ∧ namE l ow 20 1 = 0 := by
  unfold paraE at h
  by_cases h1 : checkS l ≠ 0
  · rw [if_pos h1] at h; exact absurd h h1
  rw [if_neg h1] at h
  by_cases h2 : checkP 2 ow ≠ 0
  · rw [if_pos h2] at h; exact absurd h h2
  rw [if_neg h2] at h
  exact ⟨Classical.not_not.1 h1, Classical.not_not.1 h2, h⟩
theorem textE_ok {l : List Sty} {pa ow : List (Int × Int)} (h : textE l pa ow = 0) : checkS l = 0 ∧ checkP 2 pa = 0 ∧ checkP 1 ow = 0 ∧ namE l pa 20 1 = 0 ∧ namE l ow 1 2 = 0 := by
  unfold textE at h
  by_cases h1 : checkS l ≠ 0
  · rw [if_pos h1] at h; exact absurd h h1
  rw [if_neg h1] at h
  by_cases h2 : checkP 2 pa ≠ 0
  · rw [if_pos h2] at h; exact absurd h h2
  rw [if_neg h2] at h
  by_cases h3 : checkP 1 ow ≠ 0
  · rw [if_pos h3] at h; exact absurd h h3
  rw [if_neg h3] at h
  by_cases h4 : namE l pa 20 1 ≠ 0
  · rw [if_pos h4] at h; exact absurd h h4
  rw [if_neg h4] at h
  exact ⟨Classical.not_not.1 h1, Classical.not_not.1 h2, Classical.not_not.1 h3, Classical.not_not.1 h4, h⟩
theorem paraV_bad {l : List Sty} {ow : List (Int × Int)} (h : paraE l ow ≠ 0) : paraV l ow = [] := by unfold paraV; rw [if_neg h]
theorem textV_bad {l : List Sty} {pa ow : List (Int × Int)} (h : textE l pa ow ≠ 0) : textV l pa ow = [] := by unfold textV; rw [if_neg h]
theorem retBad {a : Int} {V : List (Int × Int)} {E : Int} (h1 : E = a) (h2 : a ≠ 0) (h3 : E ≠ 0 → V = []) : D.tup [.sl 2 [], .v (.int .i64 a)] = .tup [.sl 2 (encP V), .v (.int .i64 E)] := by rw [h3 (by rw [h1]; exact h2), h1]; rfl
set_option maxRecDepth 100000 in
theorem SPara_spec (l : List Sty) (ow : List (Int × Int)) (hl : l.length ≤ 1000000) (hn : ∀ i, i < l.length → (yAt l i).name.size ≤ 1000000000) (hp : ∀ i, i < l.length → (yAt l i).props.length ≤ 1000000) (ho : ow.length ≤ 1000000) : Fun Try.prog 29 [.sl 6 (encSs l), .sl 2 (encP ow)] (.tup [.sl 2 (encP (paraV l ow)), .v (.int .i64 (paraE l ow))]) := by
  refine Fun.enter (n := 33) (rs := [.tmp 4, .tmp 5]) Try.func29 rfl Try.ntmps29 Try.results29 rfl (fun w F => ?_)
  refine TC.seq ?_; refine TC.region ?_; refine TL.run1 (pure_assign rfl) rfl ?_; refine TL.run1 (pure_assign rfl) rfl ?_; refine TL.nil' ?_; refine TC.seq ?_; refine TC.seq ?_; refine TC.region ?_; refine TL.run1 (pure_move rfl) rfl ?_; refine TL.run1 (pure_call (SCheck_spec l hl hn hp) (.cons rfl .nil) Try.call15) rfl ?_; refine TL.run1 (pure_assign rfl) rfl ?_; refine TL.nil' ?_; refine TC.seq ?_; refine TC.region ?_; refine TL.run1 (pure_move rfl) rfl ?_; refine TL.run1 (pure_neq rfl rfl) rfl ?_; refine TL.nil' ?_
  first | refine TC.condD rfl (fun hc13 => ?_) (fun hc13 => ?_) | refine TC.condN rfl (fun hc13 => ?_) (fun hc13 => ?_) | refine TC.cond rfl (fun hc13 => ?_) (fun hc13 => ?_)
  · try dsimp only at hc13
    refine TC.seq ?_; refine TC.region ?_; refine TL.run1 (pure_move rfl) rfl ?_; refine TL.run1 (pure_assign rfl) rfl ?_; refine TL.le 4 rfl (Le.nil 2) ?_; refine TL.run1 (pure_assign rfl) rfl ?_; refine TL.nil' ?_; refine TC.ret ?_; refine then_ret ?_
    refine ret2 (.inl rfl) rfl rfl (retBad ?_ hc13 paraV_bad)
    unfold paraE; rw [if_pos hc13]
  · try dsimp only at hc13
    have hg := checkS_good.1 (Classical.not_not.1 hc13)
    refine TC.skip' ?_; refine TC.seq ?_; refine TC.seq ?_; refine TC.region ?_; refine TL.run1 (pure_move rfl) rfl ?_; refine TL.run1 (pure_call (Check_spec 2 ow ho) (.cons rfl (.cons rfl .nil)) Try.call49) rfl ?_; refine TL.run1 (pure_assign rfl) rfl ?_; refine TL.nil' ?_; refine TC.seq ?_; refine TC.region ?_; refine TL.run1 (pure_move rfl) rfl ?_; refine TL.run1 (pure_neq rfl rfl) rfl ?_; refine TL.nil' ?_
    first | refine TC.condD rfl (fun hc18 => ?_) (fun hc18 => ?_) | refine TC.condN rfl (fun hc18 => ?_) (fun hc18 => ?_) | refine TC.cond rfl (fun hc18 => ?_) (fun hc18 => ?_)
    · try dsimp only at hc18
      refine TC.seq ?_; refine TC.region ?_; refine TL.run1 (pure_move rfl) rfl ?_; refine TL.run1 (pure_assign rfl) rfl ?_; refine TL.le 4 rfl (Le.nil 2) ?_; refine TL.run1 (pure_assign rfl) rfl ?_; refine TL.nil' ?_; refine TC.ret ?_; refine then_ret ?_
      refine ret2 (.inl rfl) rfl rfl (retBad ?_ hc18 paraV_bad)
      unfold paraE; rw [if_neg hc13, if_pos hc18]
    · try dsimp only at hc18
      have hco : checkP 2 ow = 0 := Classical.not_not.1 hc18
      have hgo := checkP_good (by omega) (by omega) hco
      refine TC.skip' ?_; refine TC.seq ?_; refine TC.region ?_; refine TL.run1 (pure_move rfl) rfl ?_; refine TL.run1 (pure_move rfl) rfl ?_; refine TL.run1 (pure_call (named_spec l ow 20 1 hg hgo) (.cons rfl (.cons rfl (.cons rfl (.cons rfl .nil)))) Try.call50) rfl ?_; refine TL.run1 (pure_move rfl) rfl ?_; refine TL.run1 (pure_extract rfl rfl) rfl ?_; refine TL.run1 (pure_extract rfl rfl) rfl ?_; refine TL.run1 (pure_assign rfl) rfl ?_; refine TL.run1 (pure_assign rfl) rfl ?_; refine TL.nil' ?_; refine TC.seq ?_; refine TC.seq ?_; refine TC.region ?_; refine TL.run1 (pure_move rfl) rfl ?_; refine TL.run1 (pure_neq rfl rfl) rfl ?_; refine TL.nil' ?_
      first | refine TC.condD rfl (fun hc27 => ?_) (fun hc27 => ?_) | refine TC.condN rfl (fun hc27 => ?_) (fun hc27 => ?_) | refine TC.cond rfl (fun hc27 => ?_) (fun hc27 => ?_)
      · try dsimp only at hc27
        refine TC.seq ?_; refine TC.region ?_; refine TL.run1 (pure_move rfl) rfl ?_; refine TL.run1 (pure_assign rfl) rfl ?_; refine TL.le 4 rfl (Le.nil 2) ?_; refine TL.run1 (pure_assign rfl) rfl ?_; refine TL.nil' ?_; refine TC.ret ?_; refine then_ret ?_
        refine ret2 (.inl rfl) rfl rfl (retBad ?_ hc27 paraV_bad)
        unfold paraE; rw [if_neg hc13, if_neg hc18]
      · try dsimp only at hc27
        have hne : namE l ow 20 1 = 0 := Classical.not_not.1 hc27
        have hge := hg.effP (namE_find hne)
        rw [namV_ok hne]
        have hE : paraE l ow = 0 := by (unfold paraE; rw [if_neg hc13, if_neg hc18]; exact hne)
        refine TC.skip' ?_; refine TC.seq ?_; refine TC.region ?_; refine TL.run1 (pure_move rfl) rfl ?_; refine TL.run1 (pure_move rfl) rfl ?_; refine TL.run1 (pure_call (Merge_spec (effP l (getP ow 20 0)) ow (by have := hge.len; omega) ho) (.cons rfl (.cons rfl .nil)) Try.call52) rfl ?_; refine TL.run1 (pure_call (only_spec (mergeP (effP l (getP ow 20 0)) ow) 2 (by have := mergeP_len90 hge hgo; omega)) (.cons rfl (.cons rfl .nil)) Try.call51) rfl ?_; refine TL.run1 (pure_assign rfl) rfl ?_; refine TL.run1 (pure_assign rfl) rfl ?_; refine TL.nil' ?_; refine TC.ret ?_; refine ret2 (.inl rfl) rfl rfl ?_
        rw [hE]; unfold paraV; rw [if_pos hE]
set_option maxRecDepth 100000 in
theorem SText_spec (l : List Sty) (pa ow : List (Int × Int)) (hl : l.length ≤ 1000000) (hn : ∀ i, i < l.length → (yAt l i).name.size ≤ 1000000000) (hp : ∀ i, i < l.length → (yAt l i).props.length ≤ 1000000) (hpa : pa.length ≤ 1000000) (ho : ow.length ≤ 1000000) : Fun Try.prog 19 [.sl 6 (encSs l), .sl 2 (encP pa), .sl 2 (encP ow)] (.tup [.sl 2 (encP (textV l pa ow)), .v (.int .i64 (textE l pa ow))]) := by
  refine Fun.enter (n := 53) (rs := [.tmp 6, .tmp 7]) Try.func19 rfl Try.ntmps19 Try.results19 rfl (fun w F => ?_)
  refine TC.seq ?_; refine TC.region ?_; refine TL.run1 (pure_assign rfl) rfl ?_; refine TL.run1 (pure_assign rfl) rfl ?_; refine TL.nil' ?_; refine TC.seq ?_; refine TC.seq ?_; refine TC.region ?_; refine TL.run1 (pure_move rfl) rfl ?_; refine TL.run1 (pure_call (SCheck_spec l hl hn hp) (.cons rfl .nil) Try.call15) rfl ?_; refine TL.run1 (pure_assign rfl) rfl ?_; refine TL.nil' ?_; refine TC.seq ?_; refine TC.region ?_; refine TL.run1 (pure_move rfl) rfl ?_; refine TL.run1 (pure_neq rfl rfl) rfl ?_; refine TL.nil' ?_
  first | refine TC.condD rfl (fun hc17 => ?_) (fun hc17 => ?_) | refine TC.condN rfl (fun hc17 => ?_) (fun hc17 => ?_) | refine TC.cond rfl (fun hc17 => ?_) (fun hc17 => ?_)
  · try dsimp only at hc17
    refine TC.seq ?_; refine TC.region ?_; refine TL.run1 (pure_move rfl) rfl ?_; refine TL.run1 (pure_assign rfl) rfl ?_; refine TL.le 6 rfl (Le.nil 2) ?_; refine TL.run1 (pure_assign rfl) rfl ?_; refine TL.nil' ?_; refine TC.ret ?_; refine then_ret ?_
    refine ret2 (.inl rfl) rfl rfl (retBad ?_ hc17 textV_bad)
    unfold textE; rw [if_pos hc17]
  · try dsimp only at hc17
    have hg := checkS_good.1 (Classical.not_not.1 hc17)
    refine TC.skip' ?_; refine TC.seq ?_; refine TC.seq ?_; refine TC.region ?_; refine TL.run1 (pure_move rfl) rfl ?_
    first | refine TL.run1 (pure_call (Check_spec 2 pa hpa) (.cons rfl (.cons rfl .nil)) Try.call49) rfl ?_ | refine TL.run1 (pure_call (Check_spec 1 ow ho) (.cons rfl (.cons rfl .nil)) Try.call49) rfl ?_
    refine TL.run1 (pure_assign rfl) rfl ?_; refine TL.nil' ?_; refine TC.seq ?_; refine TC.region ?_; refine TL.run1 (pure_move rfl) rfl ?_; refine TL.run1 (pure_neq rfl rfl) rfl ?_; refine TL.nil' ?_
    first | refine TC.condD rfl (fun hc22 => ?_) (fun hc22 => ?_) | refine TC.condN rfl (fun hc22 => ?_) (fun hc22 => ?_) | refine TC.cond rfl (fun hc22 => ?_) (fun hc22 => ?_)
    · try dsimp only at hc22
      refine TC.seq ?_; refine TC.region ?_; refine TL.run1 (pure_move rfl) rfl ?_; refine TL.run1 (pure_assign rfl) rfl ?_; refine TL.le 6 rfl (Le.nil 2) ?_; refine TL.run1 (pure_assign rfl) rfl ?_; refine TL.nil' ?_; refine TC.ret ?_; refine then_ret ?_
      refine ret2 (.inl rfl) rfl rfl (retBad ?_ hc22 textV_bad)
      unfold textE; rw [if_neg hc17, if_pos hc22]
    · try dsimp only at hc22
      have hgp := checkP_good (by omega) (by omega) (Classical.not_not.1 hc22)
      refine TC.skip' ?_; refine TC.seq ?_; refine TC.seq ?_; refine TC.region ?_; refine TL.run1 (pure_move rfl) rfl ?_
      first | refine TL.run1 (pure_call (Check_spec 2 pa hpa) (.cons rfl (.cons rfl .nil)) Try.call49) rfl ?_ | refine TL.run1 (pure_call (Check_spec 1 ow ho) (.cons rfl (.cons rfl .nil)) Try.call49) rfl ?_
      refine TL.run1 (pure_assign rfl) rfl ?_; refine TL.nil' ?_; refine TC.seq ?_; refine TC.region ?_; refine TL.run1 (pure_move rfl) rfl ?_; refine TL.run1 (pure_neq rfl rfl) rfl ?_; refine TL.nil' ?_
      first | refine TC.condD rfl (fun hc27 => ?_) (fun hc27 => ?_) | refine TC.condN rfl (fun hc27 => ?_) (fun hc27 => ?_) | refine TC.cond rfl (fun hc27 => ?_) (fun hc27 => ?_)
      · try dsimp only at hc27
        refine TC.seq ?_; refine TC.region ?_; refine TL.run1 (pure_move rfl) rfl ?_; refine TL.run1 (pure_assign rfl) rfl ?_; refine TL.le 6 rfl (Le.nil 2) ?_; refine TL.run1 (pure_assign rfl) rfl ?_; refine TL.nil' ?_; refine TC.ret ?_; refine then_ret ?_
        refine ret2 (.inl rfl) rfl rfl (retBad ?_ hc27 textV_bad)
        unfold textE; rw [if_neg hc17, if_neg hc22, if_pos hc27]
      · try dsimp only at hc27
        have hgo := checkP_good (by omega) (by omega) (Classical.not_not.1 hc27)
        refine TC.skip' ?_; refine TC.seq ?_; refine TC.region ?_; refine TL.run1 (pure_move rfl) rfl ?_; refine TL.run1 (pure_move rfl) rfl ?_
        first | refine TL.run1 (pure_call (named_spec l pa 20 1 hg hgp) (.cons rfl (.cons rfl (.cons rfl (.cons rfl .nil)))) Try.call50) rfl ?_ | refine TL.run1 (pure_call (named_spec l ow 1 2 hg hgo) (.cons rfl (.cons rfl (.cons rfl (.cons rfl .nil)))) Try.call50) rfl ?_
        refine TL.run1 (pure_move rfl) rfl ?_; refine TL.run1 (pure_extract rfl rfl) rfl ?_; refine TL.run1 (pure_extract rfl rfl) rfl ?_; refine TL.run1 (pure_assign rfl) rfl ?_; refine TL.run1 (pure_assign rfl) rfl ?_; refine TL.nil' ?_; refine TC.seq ?_; refine TC.seq ?_; refine TC.region ?_; refine TL.run1 (pure_move rfl) rfl ?_; refine TL.run1 (pure_neq rfl rfl) rfl ?_; refine TL.nil' ?_
        first | refine TC.condD rfl (fun hc36 => ?_) (fun hc36 => ?_) | refine TC.condN rfl (fun hc36 => ?_) (fun hc36 => ?_) | refine TC.cond rfl (fun hc36 => ?_) (fun hc36 => ?_)
        · try dsimp only at hc36
          refine TC.seq ?_; refine TC.region ?_; refine TL.run1 (pure_move rfl) rfl ?_; refine TL.run1 (pure_assign rfl) rfl ?_; refine TL.le 6 rfl (Le.nil 2) ?_; refine TL.run1 (pure_assign rfl) rfl ?_; refine TL.nil' ?_; refine TC.ret ?_; refine then_ret ?_
          refine ret2 (.inl rfl) rfl rfl (retBad ?_ hc36 textV_bad)
          unfold textE; rw [if_neg hc17, if_neg hc22, if_neg hc27, if_pos hc36]
        · try dsimp only at hc36
          have hne : namE l pa 20 1 = 0 := Classical.not_not.1 hc36
          have hge := hg.effP (namE_find hne)
          rw [namV_ok hne]
          refine TC.skip' ?_; refine TC.seq ?_; refine TC.region ?_; refine TL.run1 (pure_move rfl) rfl ?_; refine TL.run1 (pure_move rfl) rfl ?_
          first | refine TL.run1 (pure_call (named_spec l pa 20 1 hg hgp) (.cons rfl (.cons rfl (.cons rfl (.cons rfl .nil)))) Try.call50) rfl ?_ | refine TL.run1 (pure_call (named_spec l ow 1 2 hg hgo) (.cons rfl (.cons rfl (.cons rfl (.cons rfl .nil)))) Try.call50) rfl ?_
          refine TL.run1 (pure_move rfl) rfl ?_; refine TL.run1 (pure_extract rfl rfl) rfl ?_; refine TL.run1 (pure_extract rfl rfl) rfl ?_; refine TL.run1 (pure_assign rfl) rfl ?_; refine TL.run1 (pure_assign rfl) rfl ?_; refine TL.nil' ?_; refine TC.seq ?_; refine TC.seq ?_; refine TC.region ?_; refine TL.run1 (pure_move rfl) rfl ?_; refine TL.run1 (pure_neq rfl rfl) rfl ?_; refine TL.nil' ?_
          first | refine TC.condD rfl (fun hc45 => ?_) (fun hc45 => ?_) | refine TC.condN rfl (fun hc45 => ?_) (fun hc45 => ?_) | refine TC.cond rfl (fun hc45 => ?_) (fun hc45 => ?_)
          · try dsimp only at hc45
            refine TC.seq ?_; refine TC.region ?_; refine TL.run1 (pure_move rfl) rfl ?_; refine TL.run1 (pure_assign rfl) rfl ?_; refine TL.le 6 rfl (Le.nil 2) ?_; refine TL.run1 (pure_assign rfl) rfl ?_; refine TL.nil' ?_; refine TC.ret ?_; refine then_ret ?_
            refine ret2 (.inl rfl) rfl rfl (retBad ?_ hc45 textV_bad)
            unfold textE; rw [if_neg hc17, if_neg hc22, if_neg hc27, if_neg hc36]
          · try dsimp only at hc45
            have hne2 : namE l ow 1 2 = 0 := Classical.not_not.1 hc45
            have hge2 := hg.effP (namE_find hne2)
            rw [namV_ok hne2]
            have hE : textE l pa ow = 0 := by (unfold textE; rw [if_neg hc17, if_neg hc22, if_neg hc27, if_neg hc36]; exact hne2)
            refine TC.skip' ?_; refine TC.seq ?_; refine TC.region ?_; refine TL.run1 (pure_move rfl) rfl ?_; refine TL.run1 (pure_move rfl) rfl ?_
            first | refine TL.run1 (pure_call (Merge_spec (effP l (getP pa 20 0)) (effP l (getP ow 1 0)) (by have := hge.len; omega) (by have := hge2.len; omega)) (.cons rfl (.cons rfl .nil)) Try.call52) rfl ?_ | refine TL.run1 (pure_call (Merge_spec (mergeP (effP l (getP pa 20 0)) (effP l (getP ow 1 0))) ow (by have := mergeP_len90 hge hge2; omega) ho) (.cons rfl (.cons rfl .nil)) Try.call52) rfl ?_
            refine TL.run1 (pure_move rfl) rfl ?_
            first | refine TL.run1 (pure_call (Merge_spec (effP l (getP pa 20 0)) (effP l (getP ow 1 0)) (by have := hge.len; omega) (by have := hge2.len; omega)) (.cons rfl (.cons rfl .nil)) Try.call52) rfl ?_ | refine TL.run1 (pure_call (Merge_spec (mergeP (effP l (getP pa 20 0)) (effP l (getP ow 1 0))) ow (by have := mergeP_len90 hge hge2; omega) ho) (.cons rfl (.cons rfl .nil)) Try.call52) rfl ?_
            refine TL.run1 (pure_call (only_spec (mergeP (mergeP (effP l (getP pa 20 0)) (effP l (getP ow 1 0))) ow) 1 (by have := mergeP_len90 (hge.merge hge2) hgo; omega)) (.cons rfl (.cons rfl .nil)) Try.call51) rfl ?_; refine TL.run1 (pure_assign rfl) rfl ?_; refine TL.run1 (pure_assign rfl) rfl ?_; refine TL.nil' ?_; refine TC.ret ?_; refine ret2 (.inl rfl) rfl rfl ?_
            rw [hE]; unfold textV; rw [if_pos hE]
end Go.Ob
set_option linter.unusedVariables false
set_option linter.unusedSimpArgs false
namespace Go.Ob
open Go.Proofs

theorem R8Eff (l : List Sty) (id : Int) (hg : Good l) (h0 : id = 0 ∨ 0 ≤ findS l id) : Fun Try.prog 33 [.sl 6 (encSs l), .v (.int .i64 id)] (.sl 2 (encP (effP l id))) := by
  have h1 := hg.chain h0
  have hl := hg.len
  have h2 := R8Effective_spec l id (chN l id) h1.1 (by omega) (by omega) (fun i hi => by have := (hg.props hi).len; omega)
  rw [efR_eq (hg.efQ h0)] at h2
  exact h2
theorem R8Mrg (lo hi : List (Int × Int)) (h1 : GoodP lo) (h2 : GoodP hi) : Fun Try.prog 22 [.sl 2 (encP lo), .sl 2 (encP hi)] (.sl 2 (encP (mergeP lo hi))) := by
  have := R8Merge_spec lo hi (by have := h1.len; omega) (by have := h2.len; omega)
  rwa [merT_eq h1 h2] at this
theorem R8Grp (ps : List (Int × Int)) (g : Int) (hg : g ≠ 0) (h1 : GoodP ps) : Fun Try.prog 57 [.sl 2 (encP ps), .v (.int .i64 g)] (.sl 2 (encP (grp g ps))) := by
  have := R8Group_spec ps g (by have := h1.len; omega)
  rwa [gTo_all ps hg] at this
set_option maxRecDepth 100000 in
theorem RPara_spec (l : List Sty) (ow : List (Int × Int)) (hg : Good l) (ho : ow.length ≤ 1000000) : Fun Try.prog 30 [.sl 6 (encSs l), .sl 2 (encP ow)] (.tup [.sl 2 (encP (paraV l ow)), .v (.int .i64 (paraE l ow))]) := by
  refine Fun.enter (n := 33) (rs := [.tmp 4, .tmp 5]) Try.func30 rfl Try.ntmps30 Try.results30 rfl (fun w F => ?_)
  have hl : l.length ≤ 1000000 := by have := hg.len; omega
  have hc13 : ¬ checkS l ≠ 0 := fun h => h (checkS_good.2 hg)
  refine TC.seq ?_; refine TC.region ?_; refine TL.run1 (pure_assign rfl) rfl ?_; refine TL.run1 (pure_assign rfl) rfl ?_; refine TL.nil' ?_; refine TC.seq ?_; refine TC.seq ?_; refine TC.region ?_; refine TL.run1 (pure_move rfl) rfl ?_; refine TL.run1 (pure_call (RCheck_spec 2 ow ho) (.cons rfl (.cons rfl .nil)) Try.call56) rfl ?_; refine TL.run1 (pure_assign rfl) rfl ?_; refine TL.nil' ?_; refine TC.seq ?_; refine TC.region ?_; refine TL.run1 (pure_move rfl) rfl ?_; refine TL.run1 (pure_neq rfl rfl) rfl ?_; refine TL.nil' ?_
  first | refine TC.condD rfl (fun hc12 => ?_) (fun hc12 => ?_) | refine TC.condN rfl (fun hc12 => ?_) (fun hc12 => ?_) | refine TC.cond rfl (fun hc12 => ?_) (fun hc12 => ?_)
  · try dsimp only at hc12
    refine TC.seq ?_; refine TC.region ?_; refine TL.run1 (pure_move rfl) rfl ?_; refine TL.run1 (pure_assign rfl) rfl ?_; refine TL.le 4 rfl (Le.nil 2) ?_; refine TL.run1 (pure_assign rfl) rfl ?_; refine TL.nil' ?_; refine TC.ret ?_; refine then_ret ?_
    refine ret2 (.inl rfl) rfl rfl (retBad ?_ hc12 paraV_bad)
    unfold paraE; rw [if_neg hc13, if_pos hc12]
  · try dsimp only at hc12
    have hgo := checkP_good (by omega) (by omega) (Classical.not_not.1 hc12)
    refine TC.skip' ?_; refine TC.seq ?_; refine TC.region ?_; refine TL.run1 (pure_move rfl) rfl ?_; refine TL.run1 (pure_call (R8Get_spec ow 20 ho) (.cons rfl (.cons rfl .nil)) Try.call20) rfl ?_; refine TL.run1 (pure_move rfl) rfl ?_; refine TL.run1 (pure_extract rfl rfl) rfl ?_; refine TL.run1 (pure_extract rfl rfl) rfl ?_; refine TL.run1 (pure_assign rfl) rfl ?_; refine TL.run1 (pure_assign rfl) rfl ?_; refine TL.nil' ?_; refine TC.seq ?_; refine TC.regionCut [19, 20, 21, 22, 23, 24, 25, 26] 26 ((getP ow 20 0) ≠ 0 ∧ ¬ isP l 1 (getP ow 20 0)) ?_ ?_
    · skip
      refine TL.run1 (pure_move rfl) rfl ?_; refine TL.run1 (pure_neq rfl rfl) rfl ?_; refine TL.run1 (pure_move rfl) rfl ?_
      first | refine TL.splitP 21 rfl (fun hg21 => ?_) (fun hg21 => ?_) | refine TL.split 21 rfl (fun hg21 => ?_) (fun hg21 => ?_)
      · try dsimp only at hg21
        refine TL.runG rfl rfl (pure_move rfl) rfl ?_; refine TL.runG rfl rfl (pure_move rfl) rfl ?_; refine TL.runG rfl rfl (pure_call (RIs_spec l 1 (getP ow 20 0) hl) (.cons rfl (.cons rfl (.cons rfl .nil))) Try.call48) rfl ?_; refine TL.runG rfl rfl (pure_not rfl) rfl ?_; refine TL.run1 (pure_pick_true rfl rfl) rfl ?_; refine TL.cutEnd (by repeat (first | exact Same.refl _ _ | refine Same.put rfl ?_)) rfl ?_
        first | (simp_all; done) | grind
      · try dsimp only at hg21
        refine TL.passG rfl rfl rfl rfl ?_; refine TL.passG rfl rfl rfl rfl ?_; refine TL.passG rfl rfl rfl rfl ?_; refine TL.passG rfl rfl rfl rfl ?_; refine TL.run1 (pure_pick_false rfl rfl) rfl ?_; refine TL.cutEnd (by repeat (first | exact Same.refl _ _ | refine Same.put rfl ?_)) rfl ?_
        first | (simp_all; done) | grind
    first | refine TC.condD rfl (fun hc26 => ?_) (fun hc26 => ?_) | refine TC.condN rfl (fun hc26 => ?_) (fun hc26 => ?_) | refine TC.cond rfl (fun hc26 => ?_) (fun hc26 => ?_)
    · try dsimp only at hc26
      have hnn : namE l ow 20 1 = 25 := by (unfold namE; rw [if_pos hc26])
      refine TC.seq ?_; refine TC.region ?_; refine TL.run1 (pure_assign rfl) rfl ?_; refine TL.le 4 rfl (Le.nil 2) ?_; refine TL.run1 (pure_assign rfl) rfl ?_; refine TL.nil' ?_; refine TC.ret ?_; refine then_ret ?_
      refine ret2 (.inl rfl) rfl rfl (retBad ?_ (by decide) paraV_bad)
      unfold paraE; rw [if_neg hc13, if_neg hc12, hnn]
    · try dsimp only at hc26
      have hne : namE l ow 20 1 = 0 := by (unfold namE; rw [if_neg hc26])
      have hge := hg.effP (namE_find hne)
      have hE : paraE l ow = 0 := by (unfold paraE; rw [if_neg hc13, if_neg hc12]; exact hne)
      refine TC.skip' ?_; refine TC.seq ?_; refine TC.region ?_; refine TL.run1 (pure_move rfl) rfl ?_; refine TL.run1 (pure_move rfl) rfl ?_; refine TL.run1 (pure_call (R8Eff l (getP ow 20 0) hg (namE_find hne)) (.cons rfl (.cons rfl .nil)) Try.call33) rfl ?_; refine TL.run1 (pure_move rfl) rfl ?_; refine TL.run1 (pure_call (R8Mrg (effP l (getP ow 20 0)) ow hge hgo) (.cons rfl (.cons rfl .nil)) Try.call22) rfl ?_; refine TL.run1 (pure_call (R8Grp (mergeP (effP l (getP ow 20 0)) ow) 2 (by omega) (hge.merge hgo)) (.cons rfl (.cons rfl .nil)) Try.call57) rfl ?_; refine TL.run1 (pure_assign rfl) rfl ?_; refine TL.run1 (pure_assign rfl) rfl ?_; refine TL.nil' ?_; refine TC.ret ?_; refine ret2 (.inl rfl) rfl rfl ?_
      rw [hE]; unfold paraV; rw [if_pos hE]
set_option maxRecDepth 100000 in
theorem RText_spec (l : List Sty) (pa ow : List (Int × Int)) (hg : Good l) (hpa : pa.length ≤ 1000000) (ho : ow.length ≤ 1000000) : Fun Try.prog 31 [.sl 6 (encSs l), .sl 2 (encP pa), .sl 2 (encP ow)] (.tup [.sl 2 (encP (textV l pa ow)), .v (.int .i64 (textE l pa ow))]) := by
  refine Fun.enter (n := 62) (rs := [.tmp 6, .tmp 7]) Try.func31 rfl Try.ntmps31 Try.results31 rfl (fun w F => ?_)
  have hl : l.length ≤ 1000000 := by have := hg.len; omega
  have hc13 : ¬ checkS l ≠ 0 := fun h => h (checkS_good.2 hg)
  refine TC.seq ?_; refine TC.region ?_; refine TL.run1 (pure_assign rfl) rfl ?_; refine TL.run1 (pure_assign rfl) rfl ?_; refine TL.nil' ?_; refine TC.seq ?_; refine TC.seq ?_; refine TC.region ?_; refine TL.run1 (pure_move rfl) rfl ?_
  first | refine TL.run1 (pure_call (RCheck_spec 2 pa hpa) (.cons rfl (.cons rfl .nil)) Try.call56) rfl ?_ | refine TL.run1 (pure_call (RCheck_spec 1 ow ho) (.cons rfl (.cons rfl .nil)) Try.call56) rfl ?_
  refine TL.run1 (pure_assign rfl) rfl ?_; refine TL.nil' ?_; refine TC.seq ?_; refine TC.region ?_; refine TL.run1 (pure_move rfl) rfl ?_; refine TL.run1 (pure_neq rfl rfl) rfl ?_; refine TL.nil' ?_
  first | refine TC.condD rfl (fun hc17 => ?_) (fun hc17 => ?_) | refine TC.condN rfl (fun hc17 => ?_) (fun hc17 => ?_) | refine TC.cond rfl (fun hc17 => ?_) (fun hc17 => ?_)
  · try dsimp only at hc17
    refine TC.seq ?_; refine TC.region ?_; refine TL.run1 (pure_move rfl) rfl ?_; refine TL.run1 (pure_assign rfl) rfl ?_; refine TL.le 6 rfl (Le.nil 2) ?_; refine TL.run1 (pure_assign rfl) rfl ?_; refine TL.nil' ?_; refine TC.ret ?_; refine then_ret ?_
    refine ret2 (.inl rfl) rfl rfl (retBad ?_ hc17 textV_bad)
    unfold textE; rw [if_neg hc13, if_pos hc17]
  · try dsimp only at hc17
    have hgp := checkP_good (by omega) (by omega) (Classical.not_not.1 hc17)
    refine TC.skip' ?_; refine TC.seq ?_; refine TC.seq ?_; refine TC.region ?_; refine TL.run1 (pure_move rfl) rfl ?_
    first | refine TL.run1 (pure_call (RCheck_spec 2 pa hpa) (.cons rfl (.cons rfl .nil)) Try.call56) rfl ?_ | refine TL.run1 (pure_call (RCheck_spec 1 ow ho) (.cons rfl (.cons rfl .nil)) Try.call56) rfl ?_
    refine TL.run1 (pure_assign rfl) rfl ?_; refine TL.nil' ?_; refine TC.seq ?_; refine TC.region ?_; refine TL.run1 (pure_move rfl) rfl ?_; refine TL.run1 (pure_neq rfl rfl) rfl ?_; refine TL.nil' ?_
    first | refine TC.condD rfl (fun hc22 => ?_) (fun hc22 => ?_) | refine TC.condN rfl (fun hc22 => ?_) (fun hc22 => ?_) | refine TC.cond rfl (fun hc22 => ?_) (fun hc22 => ?_)
    · try dsimp only at hc22
      refine TC.seq ?_; refine TC.region ?_; refine TL.run1 (pure_move rfl) rfl ?_; refine TL.run1 (pure_assign rfl) rfl ?_; refine TL.le 6 rfl (Le.nil 2) ?_; refine TL.run1 (pure_assign rfl) rfl ?_; refine TL.nil' ?_; refine TC.ret ?_; refine then_ret ?_
      refine ret2 (.inl rfl) rfl rfl (retBad ?_ hc22 textV_bad)
      unfold textE; rw [if_neg hc13, if_neg hc17, if_pos hc22]
    · try dsimp only at hc22
      have hco := Classical.not_not.1 hc22
      have hgo := checkP_good (by omega) (by omega) hco
      refine TC.skip' ?_; refine TC.seq ?_; refine TC.region ?_; refine TL.run1 (pure_move rfl) rfl ?_
      first | refine TL.run1 (pure_call (R8Get_spec pa 20 hpa) (.cons rfl (.cons rfl .nil)) Try.call20) rfl ?_ | refine TL.run1 (pure_call (R8Get_spec ow 1 ho) (.cons rfl (.cons rfl .nil)) Try.call20) rfl ?_
      refine TL.run1 (pure_move rfl) rfl ?_; refine TL.run1 (pure_extract rfl rfl) rfl ?_; refine TL.run1 (pure_extract rfl rfl) rfl ?_; refine TL.run1 (pure_assign rfl) rfl ?_; refine TL.run1 (pure_assign rfl) rfl ?_; refine TL.nil' ?_; refine TC.seq ?_; refine TC.region ?_; refine TL.run1 (pure_move rfl) rfl ?_
      first | refine TL.run1 (pure_call (R8Get_spec pa 20 hpa) (.cons rfl (.cons rfl .nil)) Try.call20) rfl ?_ | refine TL.run1 (pure_call (R8Get_spec ow 1 ho) (.cons rfl (.cons rfl .nil)) Try.call20) rfl ?_
      refine TL.run1 (pure_move rfl) rfl ?_; refine TL.run1 (pure_extract rfl rfl) rfl ?_; refine TL.run1 (pure_extract rfl rfl) rfl ?_; refine TL.run1 (pure_assign rfl) rfl ?_; refine TL.run1 (pure_assign rfl) rfl ?_; refine TL.nil' ?_; refine TC.seq ?_; refine TC.regionCut [34, 35, 36, 37, 38, 39, 40, 41, 42, 43, 44, 45, 46, 47, 48, 49, 50, 51] 51 (((getP pa 20 0) ≠ 0 ∧ ¬ isP l 1 (getP pa 20 0)) ∨ ((getP ow 1 0) ≠ 0 ∧ ¬ isP l 2 (getP ow 1 0))) ?_ ?_
      · skip
        refine TL.run1 (pure_move rfl) rfl ?_; refine TL.run1 (pure_neq rfl rfl) rfl ?_; refine TL.run1 (pure_move rfl) rfl ?_
        first | refine TL.splitP 36 rfl (fun hg36 => ?_) (fun hg36 => ?_) | refine TL.split 36 rfl (fun hg36 => ?_) (fun hg36 => ?_)
        · try dsimp only at hg36
          refine TL.runG rfl rfl (pure_move rfl) rfl ?_; refine TL.runG rfl rfl (pure_move rfl) rfl ?_
          first | refine TL.runG rfl rfl (pure_call (RIs_spec l 1 (getP pa 20 0) hl) (.cons rfl (.cons rfl (.cons rfl .nil))) Try.call48) rfl ?_ | refine TL.runG rfl rfl (pure_call (RIs_spec l 2 (getP ow 1 0) hl) (.cons rfl (.cons rfl (.cons rfl .nil))) Try.call48) rfl ?_
          refine TL.runG rfl rfl (pure_not rfl) rfl ?_; refine TL.run1 (pure_pick_true rfl rfl) rfl ?_; refine TL.run1 (pure_move rfl) rfl ?_
          first | refine TL.splitP 42 rfl (fun hg42 => ?_) (fun hg42 => ?_) | refine TL.split 42 rfl (fun hg42 => ?_) (fun hg42 => ?_)
          · try dsimp only at hg42
            refine TL.passG rfl rfl rfl rfl ?_; refine TL.passG rfl rfl rfl rfl ?_; refine TL.passG rfl rfl rfl rfl ?_; refine TL.passG rfl rfl rfl rfl ?_; refine TL.passG rfl rfl rfl rfl ?_; refine TL.passG rfl rfl rfl rfl ?_; refine TL.passG rfl rfl rfl rfl ?_; refine TL.passG rfl rfl rfl rfl ?_; refine TL.run1 (pure_pick_true rfl rfl) rfl ?_; refine TL.cutEnd (by repeat (first | exact Same.refl _ _ | refine Same.put rfl ?_)) rfl ?_
            first | (simp_all; done) | grind
          · try dsimp only at hg42
            refine TL.runG rfl rfl (pure_move rfl) rfl ?_; refine TL.runG rfl rfl (pure_neq rfl rfl) rfl ?_; refine TL.runG rfl rfl (pure_move rfl) rfl ?_
            first | refine TL.splitP 45 rfl (fun hg45 => ?_) (fun hg45 => ?_) | refine TL.split 45 rfl (fun hg45 => ?_) (fun hg45 => ?_)
            · try dsimp only at hg45
              refine TL.runG rfl rfl (pure_move rfl) rfl ?_; refine TL.runG rfl rfl (pure_move rfl) rfl ?_
              first | refine TL.runG rfl rfl (pure_call (RIs_spec l 1 (getP pa 20 0) hl) (.cons rfl (.cons rfl (.cons rfl .nil))) Try.call48) rfl ?_ | refine TL.runG rfl rfl (pure_call (RIs_spec l 2 (getP ow 1 0) hl) (.cons rfl (.cons rfl (.cons rfl .nil))) Try.call48) rfl ?_
              refine TL.runG rfl rfl (pure_not rfl) rfl ?_; refine TL.runG rfl rfl (pure_pick_true rfl rfl) rfl ?_; refine TL.run1 (pure_pick_false rfl rfl) rfl ?_; refine TL.cutEnd (by repeat (first | exact Same.refl _ _ | refine Same.put rfl ?_)) rfl ?_
              first | (simp_all; done) | grind
            · try dsimp only at hg45
              refine TL.passG rfl rfl rfl rfl ?_; refine TL.passG rfl rfl rfl rfl ?_; refine TL.passG rfl rfl rfl rfl ?_; refine TL.passG rfl rfl rfl rfl ?_; refine TL.runG rfl rfl (pure_pick_false rfl rfl) rfl ?_; refine TL.run1 (pure_pick_false rfl rfl) rfl ?_; refine TL.cutEnd (by repeat (first | exact Same.refl _ _ | refine Same.put rfl ?_)) rfl ?_
              first | (simp_all; done) | grind
        · try dsimp only at hg36
          refine TL.passG rfl rfl rfl rfl ?_; refine TL.passG rfl rfl rfl rfl ?_; refine TL.passG rfl rfl rfl rfl ?_; refine TL.passG rfl rfl rfl rfl ?_; refine TL.run1 (pure_pick_false rfl rfl) rfl ?_; refine TL.run1 (pure_move rfl) rfl ?_; refine TL.runG rfl rfl (pure_move rfl) rfl ?_; refine TL.runG rfl rfl (pure_neq rfl rfl) rfl ?_; refine TL.runG rfl rfl (pure_move rfl) rfl ?_
          first | refine TL.splitP 45 rfl (fun hg45 => ?_) (fun hg45 => ?_) | refine TL.split 45 rfl (fun hg45 => ?_) (fun hg45 => ?_)
          · try dsimp only at hg45
            refine TL.runG rfl rfl (pure_move rfl) rfl ?_; refine TL.runG rfl rfl (pure_move rfl) rfl ?_
            first | refine TL.runG rfl rfl (pure_call (RIs_spec l 1 (getP pa 20 0) hl) (.cons rfl (.cons rfl (.cons rfl .nil))) Try.call48) rfl ?_ | refine TL.runG rfl rfl (pure_call (RIs_spec l 2 (getP ow 1 0) hl) (.cons rfl (.cons rfl (.cons rfl .nil))) Try.call48) rfl ?_
            refine TL.runG rfl rfl (pure_not rfl) rfl ?_; refine TL.runG rfl rfl (pure_pick_true rfl rfl) rfl ?_; refine TL.run1 (pure_pick_false rfl rfl) rfl ?_; refine TL.cutEnd (by repeat (first | exact Same.refl _ _ | refine Same.put rfl ?_)) rfl ?_
            first | (simp_all; done) | grind
          · try dsimp only at hg45
            refine TL.passG rfl rfl rfl rfl ?_; refine TL.passG rfl rfl rfl rfl ?_; refine TL.passG rfl rfl rfl rfl ?_; refine TL.passG rfl rfl rfl rfl ?_; refine TL.runG rfl rfl (pure_pick_false rfl rfl) rfl ?_; refine TL.run1 (pure_pick_false rfl rfl) rfl ?_; refine TL.cutEnd (by repeat (first | exact Same.refl _ _ | refine Same.put rfl ?_)) rfl ?_
            first | (simp_all; done) | grind
      first | refine TC.condD rfl (fun hc51 => ?_) (fun hc51 => ?_) | refine TC.condN rfl (fun hc51 => ?_) (fun hc51 => ?_) | refine TC.cond rfl (fun hc51 => ?_) (fun hc51 => ?_)
      · try dsimp only at hc51
        have hE : textE l pa ow = 25 := by (unfold textE; rw [if_neg hc13, if_neg hc17, if_neg hc22]; unfold namE; by_cases hq : (getP pa 20 0) ≠ 0 ∧ ¬ isP l 1 (getP pa 20 0); rw [if_pos hq, if_pos (by omega)]; rw [if_neg hq, if_neg (by omega), if_pos (hc51.resolve_left hq)])
        refine TC.seq ?_; refine TC.region ?_; refine TL.run1 (pure_assign rfl) rfl ?_; refine TL.le 6 rfl (Le.nil 2) ?_; refine TL.run1 (pure_assign rfl) rfl ?_; refine TL.nil' ?_; refine TC.ret ?_; refine then_ret ?_
        refine ret2 (.inl rfl) rfl rfl (retBad hE (by decide) textV_bad)
      · try dsimp only at hc51
        have hne : namE l pa 20 1 = 0 := by (unfold namE; rw [if_neg (fun h => hc51 (.inl h))])
        have hne2 : namE l ow 1 2 = 0 := by (unfold namE; rw [if_neg (fun h => hc51 (.inr h))])
        have hge := hg.effP (namE_find hne)
        have hge2 := hg.effP (namE_find hne2)
        have hE : textE l pa ow = 0 := by (unfold textE; rw [if_neg hc13, if_neg hc17, if_neg hc22, if_neg (by omega)]; exact hne2)
        refine TC.skip' ?_; refine TC.seq ?_; refine TC.region ?_; refine TL.run1 (pure_move rfl) rfl ?_; refine TL.run1 (pure_move rfl) rfl ?_
        first | refine TL.run1 (pure_call (R8Eff l (getP pa 20 0) hg (namE_find hne)) (.cons rfl (.cons rfl .nil)) Try.call33) rfl ?_ | refine TL.run1 (pure_call (R8Eff l (getP ow 1 0) hg (namE_find hne2)) (.cons rfl (.cons rfl .nil)) Try.call33) rfl ?_
        refine TL.run1 (pure_call (R8Grp (effP l (getP pa 20 0)) 1 (by omega) hge) (.cons rfl (.cons rfl .nil)) Try.call57) rfl ?_; refine TL.run1 (pure_move rfl) rfl ?_; refine TL.run1 (pure_move rfl) rfl ?_
        first | refine TL.run1 (pure_call (R8Eff l (getP pa 20 0) hg (namE_find hne)) (.cons rfl (.cons rfl .nil)) Try.call33) rfl ?_ | refine TL.run1 (pure_call (R8Eff l (getP ow 1 0) hg (namE_find hne2)) (.cons rfl (.cons rfl .nil)) Try.call33) rfl ?_
        first | refine TL.run1 (pure_call (R8Mrg (grp 1 (effP l (getP pa 20 0))) (effP l (getP ow 1 0)) (hge.grp 1) hge2) (.cons rfl (.cons rfl .nil)) Try.call22) rfl ?_ | refine TL.run1 (pure_call (R8Mrg (mergeP (grp 1 (effP l (getP pa 20 0))) (effP l (getP ow 1 0))) ow ((hge.grp 1).merge hge2) hgo) (.cons rfl (.cons rfl .nil)) Try.call22) rfl ?_
        refine TL.run1 (pure_move rfl) rfl ?_
        first | refine TL.run1 (pure_call (R8Mrg (grp 1 (effP l (getP pa 20 0))) (effP l (getP ow 1 0)) (hge.grp 1) hge2) (.cons rfl (.cons rfl .nil)) Try.call22) rfl ?_ | refine TL.run1 (pure_call (R8Mrg (mergeP (grp 1 (effP l (getP pa 20 0))) (effP l (getP ow 1 0))) ow ((hge.grp 1).merge hge2) hgo) (.cons rfl (.cons rfl .nil)) Try.call22) rfl ?_
        refine TL.run1 (pure_assign rfl) rfl ?_; refine TL.run1 (pure_assign rfl) rfl ?_; refine TL.nil' ?_; refine TC.ret ?_; refine ret2 (.inl rfl) rfl rfl ?_
        rw [hE]; unfold textV; rw [if_pos hE, grp_merge (hge.merge hge2).1 hgo.1, grp_merge hge.1 hge2.1, eff_char hg (namE_ok hne2), grp_id (checkP_grp1 hco)]
end Go.Ob
set_option linter.unusedVariables false
set_option linter.unusedSimpArgs false
namespace Go.Ob
open Go.Proofs

def lK : List Sty := [⟨1, 1, ⟨#[78, 111, 114, 109, 97, 108]⟩, 0, 0, [(5, 24)]⟩, ⟨2, 1, ⟨#[72, 101, 97, 100, 105, 110, 103]⟩, 1, 0, [(2, 1), (5, 32)]⟩, ⟨3, 2, ⟨#[67, 111, 100, 101]⟩, 0, 0, [(7, 2)]⟩]
theorem known_E : textE lK [(20, 2)] [(1, 3), (3, 1)] = 0 := by decide +kernel
theorem known_V : textV lK [(20, 2)] [(1, 3), (3, 1)] = [(1, 3), (2, 1), (3, 1), (5, 32), (7, 2)] := by decide +kernel
set_option maxRecDepth 100000 in
theorem known_spec  : Fun Try.prog 13 [] (.v (.bool true)) := by
  refine Fun.enter (n := 37) (rs := [.tmp 0]) Try.func13 rfl Try.ntmps13 Try.results13 rfl (fun w F => ?_)
  refine TC.seq ?_; refine TC.region ?_; refine TL.run1 (pure_assign rfl) rfl ?_; refine TL.nil' ?_; refine TC.seq ?_; refine TC.region ?_; refine TL.run1 (pure_build Ty.pl38 Ty.zero38 (.cons rfl rfl (.one rfl) rfl (.here (.nil _)) (.cons rfl rfl (.one rfl) rfl (.skip (.here (.nil _))) (.nil _)))) rfl ?_; refine TL.run1 (pure_buildSlice (xs := [.tmp 4]) Ty.app26 (by decide) rfl rfl (.cons rfl (.agg _) rfl .nil)) rfl ?_; refine TL.run1 (pure_build Ty.pl28 Ty.zero28 (.cons rfl rfl (.one rfl) rfl (.here (.nil _)) (.cons rfl rfl (.one rfl) rfl (.skip (.here (.nil _))) (.cons rfl rfl (.one rfl) rfl (.skip (.skip (.here (.nil _)))) (.cons rfl rfl (.one rfl) rfl (.skip (.skip (.skip (.skip (.skip (.here (.nil _))))))) (.nil _)))))) rfl ?_; refine TL.run1 (pure_build Ty.pl38 Ty.zero38 (.cons rfl rfl (.one rfl) rfl (.here (.nil _)) (.cons rfl rfl (.one rfl) rfl (.skip (.here (.nil _))) (.nil _)))) rfl ?_; refine TL.run1 (pure_build Ty.pl38 Ty.zero38 (.cons rfl rfl (.one rfl) rfl (.here (.nil _)) (.cons rfl rfl (.one rfl) rfl (.skip (.here (.nil _))) (.nil _)))) rfl ?_; refine TL.run1 (pure_buildSlice (xs := [.tmp 7, .tmp 8]) Ty.app26 (by decide) rfl rfl (.cons rfl (.agg _) rfl (.cons rfl (.agg _) rfl .nil))) rfl ?_; refine TL.run1 (pure_build Ty.pl28 Ty.zero28 (.cons rfl rfl (.one rfl) rfl (.here (.nil _)) (.cons rfl rfl (.one rfl) rfl (.skip (.here (.nil _))) (.cons rfl rfl (.one rfl) rfl (.skip (.skip (.here (.nil _)))) (.cons rfl rfl (.one rfl) rfl (.skip (.skip (.skip (.here (.nil _))))) (.cons rfl rfl (.one rfl) rfl (.skip (.skip (.skip (.skip (.skip (.here (.nil _))))))) (.nil _))))))) rfl ?_; refine TL.run1 (pure_build Ty.pl38 Ty.zero38 (.cons rfl rfl (.one rfl) rfl (.here (.nil _)) (.cons rfl rfl (.one rfl) rfl (.skip (.here (.nil _))) (.nil _)))) rfl ?_; refine TL.run1 (pure_buildSlice (xs := [.tmp 11]) Ty.app26 (by decide) rfl rfl (.cons rfl (.agg _) rfl .nil)) rfl ?_; refine TL.run1 (pure_build Ty.pl28 Ty.zero28 (.cons rfl rfl (.one rfl) rfl (.here (.nil _)) (.cons rfl rfl (.one rfl) rfl (.skip (.here (.nil _))) (.cons rfl rfl (.one rfl) rfl (.skip (.skip (.here (.nil _)))) (.cons rfl rfl (.one rfl) rfl (.skip (.skip (.skip (.skip (.skip (.here (.nil _))))))) (.nil _)))))) rfl ?_; refine TL.run1 (pure_buildSlice (xs := [.tmp 6, .tmp 10, .tmp 13]) Ty.app22 (by decide) rfl rfl (.cons rfl (.agg _) rfl (.cons rfl (.agg _) rfl (.cons rfl (.agg _) rfl .nil)))) rfl ?_; refine TL.run1 (pure_assign rfl) rfl ?_; refine TL.nil' ?_; refine TC.seq ?_; refine TC.region ?_; refine TL.run1 (pure_move rfl) rfl ?_; refine TL.run1 (pure_build Ty.pl38 Ty.zero38 (.cons rfl rfl (.one rfl) rfl (.here (.nil _)) (.cons rfl rfl (.one rfl) rfl (.skip (.here (.nil _))) (.nil _)))) rfl ?_; refine TL.run1 (pure_buildSlice (xs := [.tmp 17]) Ty.app26 (by decide) rfl rfl (.cons rfl (.agg _) rfl .nil)) rfl ?_; refine TL.run1 (pure_build Ty.pl38 Ty.zero38 (.cons rfl rfl (.one rfl) rfl (.here (.nil _)) (.cons rfl rfl (.one rfl) rfl (.skip (.here (.nil _))) (.nil _)))) rfl ?_; refine TL.run1 (pure_build Ty.pl38 Ty.zero38 (.cons rfl rfl (.one rfl) rfl (.here (.nil _)) (.cons rfl rfl (.one rfl) rfl (.skip (.here (.nil _))) (.nil _)))) rfl ?_; refine TL.run1 (pure_buildSlice (xs := [.tmp 19, .tmp 20]) Ty.app26 (by decide) rfl rfl (.cons rfl (.agg _) rfl (.cons rfl (.agg _) rfl .nil))) rfl ?_; refine TL.run1 (pure_call (SText_spec lK [(20, 2)] [(1, 3), (3, 1)] (by decide) (by decide +kernel) (by decide +kernel) (by decide) (by decide)) (.cons rfl (.cons rfl (.cons rfl .nil))) Try.call19) rfl ?_; refine TL.run1 (pure_move rfl) rfl ?_; refine TL.run1 (pure_extract rfl rfl) rfl ?_; refine TL.run1 (pure_extract rfl rfl) rfl ?_; refine TL.run1 (pure_assign rfl) rfl ?_; refine TL.run1 (pure_assign rfl) rfl ?_; refine TL.nil' ?_; refine TC.seq ?_
  rw [known_V, known_E]
  refine TC.region ?_; refine TL.run1 (pure_move rfl) rfl ?_; refine TL.run1 (pure_eql rfl rfl) rfl ?_; refine TL.run1 (pure_move rfl) rfl ?_
  first | refine TL.splitP 27 rfl (fun hg27 => ?_) (fun hg27 => ?_) | refine TL.split 27 rfl (fun hg27 => ?_) (fun hg27 => ?_)
  · try dsimp only at hg27
    refine TL.runG rfl rfl (pure_move rfl) rfl ?_; refine TL.runG rfl rfl (pure_build Ty.pl38 Ty.zero38 (.cons rfl rfl (.one rfl) rfl (.here (.nil _)) (.cons rfl rfl (.one rfl) rfl (.skip (.here (.nil _))) (.nil _)))) rfl ?_; refine TL.runG rfl rfl (pure_build Ty.pl38 Ty.zero38 (.cons rfl rfl (.one rfl) rfl (.here (.nil _)) (.cons rfl rfl (.one rfl) rfl (.skip (.here (.nil _))) (.nil _)))) rfl ?_; refine TL.runG rfl rfl (pure_build Ty.pl38 Ty.zero38 (.cons rfl rfl (.one rfl) rfl (.here (.nil _)) (.cons rfl rfl (.one rfl) rfl (.skip (.here (.nil _))) (.nil _)))) rfl ?_; refine TL.runG rfl rfl (pure_build Ty.pl38 Ty.zero38 (.cons rfl rfl (.one rfl) rfl (.here (.nil _)) (.cons rfl rfl (.one rfl) rfl (.skip (.here (.nil _))) (.nil _)))) rfl ?_; refine TL.runG rfl rfl (pure_build Ty.pl38 Ty.zero38 (.cons rfl rfl (.one rfl) rfl (.here (.nil _)) (.cons rfl rfl (.one rfl) rfl (.skip (.here (.nil _))) (.nil _)))) rfl ?_; refine TL.runG rfl rfl (pure_buildSlice (xs := [.tmp 29, .tmp 30, .tmp 31, .tmp 32, .tmp 33]) Ty.app26 (by decide) rfl rfl (.cons rfl (.agg _) rfl (.cons rfl (.agg _) rfl (.cons rfl (.agg _) rfl (.cons rfl (.agg _) rfl (.cons rfl (.agg _) rfl .nil)))))) rfl ?_; refine TL.runG rfl rfl (pure_call (EqualProps_spec [(1, 3), (2, 1), (3, 1), (5, 32), (7, 2)] [(1, 3), (2, 1), (3, 1), (5, 32), (7, 2)] (by decide)) (.cons rfl (.cons rfl .nil)) Try.call23) rfl ?_; refine TL.run1 (pure_pick_true rfl rfl) rfl ?_; refine TL.run1 (pure_assign rfl) rfl ?_; refine TL.nil' ?_; refine TC.ret ?_
    exact ret_bool rfl (by rw [decide_eq_true rfl])
  · try dsimp only at hg27
    exact absurd rfl hg27
end Go.Ob
