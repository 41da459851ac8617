import Derived.Test.YtlhjcleejolbiaaC5
set_option linter.unusedVariables false
set_option linter.unusedSimpArgs false
namespace Go.Ob
open Go.Proofs

abbrev Lay4 := Int × Int × Int × Bool
def encY (l : List Lay4) : List (List D) := l.map fun y => [.v (.int .i64 y.1), .v (.int .i64 y.2.1), .v (.int .i64 y.2.2.1), .v (.bool y.2.2.2)]
def yAt (l : List Lay4) (i : Int) : Lay4 := l.getD i.toNat (0, 0, 0, false)
theorem encY_len (l : List Lay4) : (encY l).length = l.length := by simp [encY]
theorem encY_get (l : List Lay4) (i : Int) (h0 : 0 ≤ i) (h1 : i < l.length) : (encY l)[i.toNat]? = some [.v (.int .i64 (yAt l i).1), .v (.int .i64 (yAt l i).2.1), .v (.int .i64 (yAt l i).2.2.1), .v (.bool (yAt l i).2.2.2)] := by
  have : i.toNat < l.length := by omega
  simp [encY, yAt, this]
def HeadT (ds : List D) : Prop := ∃ ps a b dl ly, ds = [.sl 2 (encP ps), .v (.int .i64 a), .v (.int .i64 b), .sl 2 (encP dl), .sl 4 (encY ly)] ∧ ps.length ≤ 9223372036854775807 ∧ dl.length ≤ 9223372036854775807 ∧ ly.length ≤ 9223372036854775807
def FlowT (fl : List (List D)) : Prop := fl.length ≤ 9223372036854775807 ∧ ∀ x ∈ fl, ∃ a b c s tl, x = .v (.int .i64 a) :: .v (.int .i64 b) :: .v (.int .i64 c) :: .v (.string s) :: tl
theorem FlowT.get {fl : List (List D)} (h : FlowT fl) (i : Int) (h0 : 0 ≤ i) (h1 : i < fl.length) : ∃ a b c s tl, fl[i.toNat]? = some (.v (.int .i64 a) :: .v (.int .i64 b) :: .v (.int .i64 c) :: .v (.string s) :: tl) := by
  have hl : i.toNat < fl.length := by omega
  obtain ⟨a, b, c, s, tl, he⟩ := h.2 _ (List.getElem_mem hl)
  exact ⟨a, b, c, s, tl, by rw [List.getElem?_eq_getElem hl, he]⟩
def CellT (c : CellD) : Prop := (∃ id, c.id = .v (.int .i64 id)) ∧ HeadT [.sl 2 (encP c.props), c.ins, c.move, c.dels, c.layers] ∧ FlowT c.flow
def TabT (rs : List RowD) : Prop := rs.length ≤ 9223372036854775807 ∧ ∀ r ∈ rs, HeadT [r.hp, r.hi, r.hm, r.hd, r.hl] ∧ r.cells.length ≤ 9223372036854775807 ∧ ∀ c ∈ r.cells, CellT c
set_option maxHeartbeats 1000000 in
set_option maxRecDepth 100000 in
theorem Rsame0_spec (ps : List (Int × Int)) (a b : Int) (dl : List (Int × Int)) (ly : List Lay4) (h1 : ps.length ≤ 9223372036854775807) (h2 : dl.length ≤ 9223372036854775807) (h3 : ly.length ≤ 9223372036854775807) : Fun Try.prog 50 [.agg [.sl 2 (encP ps), .v (.int .i64 a), .v (.int .i64 b), .sl 2 (encP dl), .sl 4 (encY ly)], .agg [.sl 2 (encP ps), .v (.int .i64 a), .v (.int .i64 b), .sl 2 (encP dl), .sl 4 (encY ly)]] (.v (.bool true)) := by
  refine Fun.enter (n := 107) (rs := [.tmp 4]) Try.func50 rfl Try.ntmps50 Try.results50 rfl (fun w F => ?_)
  have hkp := encP_len ps
  have hkd := encP_len dl
  have hky := encY_len ly
  refine TC.seq ?_
  refine TC.region ?_
  refine TL.box rfl (.agg _) rfl (fun g2 => ?_)
  refine TL.box rfl (.agg _) rfl (fun g3 => ?_)
  refine TL.run1 (pure_assign rfl) rfl ?_
  refine TL.nil' ?_
  refine TC.seq ?_
  refine TC.freezeBox 3 (List.cons_ne_nil _ _) (.here _) rfl ?_
  refine TC.freezeBox 2 (List.cons_ne_nil _ _) (.here _) rfl ?_
  refine TC.thenCut (fun env H => ∃ g5 g6, At env H [(2, .at_ [.sl 2 (encP ps), .v (.int .i64 a), .v (.int .i64 b), .sl 2 (encP dl), .sl 4 (encY ly)]), (3, .at_ [.sl 2 (encP ps), .v (.int .i64 a), .v (.int .i64 b), .sl 2 (encP dl), .sl 4 (encY ly)]), (5, .v (.pointer (some ⟨g5, 0, none⟩))), (6, .v (.pointer (some ⟨g6, 0, none⟩)))] [Blk.box g5 31 [.v (.int .i64 a), .v (.int .i64 b), .sl 2 (encP dl), .sl 4 (encY ly)], Blk.box g6 31 [.v (.int .i64 a), .v (.int .i64 b), .sl 2 (encP dl), .sl 4 (encY ly)]]) ?_ ?_
  · refine TC.drawSp 7 [4, 5, 6] [] Ty.follows (by decide) (by kernel_rfl) (by kernel_rfl) (by kernel_rfl) ?_
    first | refine TD.run1 (pure_fieldAddr Ty.f33_1 rfl (.succ (.zero _)) (List.cons_ne_nil _ _)) rfl ?_ | refine TD.run1 (pure_fieldAddr_own Ty.f33_1 rfl) rfl ?_
    first | refine TD.run1 (pure_load Ty.agg31 rfl (.succ (.succ (.succ (.succ (.zero _)))))) rfl ?_ | refine TD.run1 (pure_load_own Ty.agg31 rfl (by repeat (first | exact List.Mem.head _ | apply List.Mem.tail)) (by repeat (first | exact DropR.zero _ | apply DropR.succ)) (.succ (.succ (.succ (.succ (.zero _)))))) rfl ?_
    first | refine TD.run1 (pure_fieldAddr Ty.f33_1 rfl (.succ (.zero _)) (List.cons_ne_nil _ _)) rfl ?_ | refine TD.run1 (pure_fieldAddr_own Ty.f33_1 rfl) rfl ?_
    first | refine TD.run1 (pure_load Ty.agg31 rfl (.succ (.succ (.succ (.succ (.zero _)))))) rfl ?_ | refine TD.run1 (pure_load_own Ty.agg31 rfl (by repeat (first | exact List.Mem.head _ | apply List.Mem.tail)) (by repeat (first | exact DropR.zero _ | apply DropR.succ)) (.succ (.succ (.succ (.succ (.zero _)))))) rfl ?_
    refine TD.mute (TD.mute (TD.mute (TD.nil ?_)))
    refine ⟨⟨_, SplitR.none _⟩, fun s hs hb => ?_⟩
    simp only [List.mem_cons, List.not_mem_nil, or_false] at hs
    rcases hs with rfl | rfl | rfl
    · refine ⟨_, rfl, rfl, fun E eF he hx => ?_⟩
      subst he
      refine TL.alloc Ty.zero31 rfl (fun g5 => TL.nil ⟨rfl, _, rfl, ?_⟩)
      refine ⟨⟨_, SplitR.none _⟩, fun s hs hb => ?_⟩
      rw [show ([4, 5, 6] : List Nat).erase 4 = [5, 6] from rfl] at *
      simp only [List.mem_cons, List.not_mem_nil, or_false] at hs
      rcases hs with rfl | rfl
      · refine ⟨_, rfl, rfl, fun E eF he hx => ?_⟩
        subst he
        refine TL.alloc Ty.zero31 rfl (fun g6 => TL.nil ⟨rfl, _, rfl, ?_⟩)
        refine ⟨⟨_, SplitR.none _⟩, fun s hs hb => ?_⟩
        rw [show ([5, 6] : List Nat).erase 5 = [6] from rfl] at *
        simp only [List.mem_cons, List.not_mem_nil, or_false] at hs
        subst hs
        refine ⟨_, rfl, rfl, fun E eF he hx => ?_⟩
        subst he
        refine TL.store ((hx (.tmp 5) (by simp [Op.operands])).trans rfl) ((hx (.tmp 11) (by simp [Op.operands])).trans rfl) (.agg _) Try.sizeOf31 rfl (by repeat (first | exact UpdR.here _ | apply UpdR.there)) (by repeat (first | exact PutR.nil _ | apply PutR.here | apply PutR.skip)) (TL.nil ⟨rfl, none, rfl, ?_⟩)
        refine ⟨⟨_, SplitR.none _⟩, fun e he => ?_⟩
        subst he
        refine TL.store rfl rfl (.agg _) Try.sizeOf31 rfl (by repeat (first | exact UpdR.here _ | apply UpdR.there)) (by repeat (first | exact PutR.nil _ | apply PutR.here | apply PutR.skip)) ?_
        refine TL.perm (H' := [Blk.box g5 31 [.v (.int .i64 a), .v (.int .i64 b), .sl 2 (encP dl), .sl 4 (encY ly)], Blk.box g6 31 [.v (.int .i64 a), .v (.int .i64 b), .sl 2 (encP dl), .sl 4 (encY ly)]]) (List.Perm.swap _ _ _) ?_
        exact TL.nil ⟨rfl, g5, g6, ⟨by repeat (first | exact Agree.nil | refine Agree.cons rfl ?_), by repeat (first | exact List.nil_sublist _ | exact List.Sublist.refl _ | apply List.Sublist.cons_cons | apply List.Sublist.cons)⟩⟩
      · exact absurd (hb 5 (by simp)) (by decide +kernel)
    · refine ⟨_, rfl, rfl, fun E eF he hx => ?_⟩
      subst he
      refine TL.alloc Ty.zero31 rfl (fun g6 => TL.nil ⟨rfl, _, rfl, ?_⟩)
      refine ⟨⟨_, SplitR.none _⟩, fun s hs hb => ?_⟩
      rw [show ([4, 5, 6] : List Nat).erase 5 = [4, 6] from rfl] at *
      simp only [List.mem_cons, List.not_mem_nil, or_false] at hs
      rcases hs with rfl | rfl
      · refine ⟨_, rfl, rfl, fun E eF he hx => ?_⟩
        subst he
        refine TL.alloc Ty.zero31 rfl (fun g5 => TL.nil ⟨rfl, _, rfl, ?_⟩)
        refine ⟨⟨_, SplitR.none _⟩, fun s hs hb => ?_⟩
        rw [show ([4, 6] : List Nat).erase 4 = [6] from rfl] at *
        simp only [List.mem_cons, List.not_mem_nil, or_false] at hs
        subst hs
        refine ⟨_, rfl, rfl, fun E eF he hx => ?_⟩
        subst he
        refine TL.store ((hx (.tmp 5) (by simp [Op.operands])).trans rfl) ((hx (.tmp 11) (by simp [Op.operands])).trans rfl) (.agg _) Try.sizeOf31 rfl (by repeat (first | exact UpdR.here _ | apply UpdR.there)) (by repeat (first | exact PutR.nil _ | apply PutR.here | apply PutR.skip)) (TL.nil ⟨rfl, none, rfl, ?_⟩)
        refine ⟨⟨_, SplitR.none _⟩, fun e he => ?_⟩
        subst he
        refine TL.store rfl rfl (.agg _) Try.sizeOf31 rfl (by repeat (first | exact UpdR.here _ | apply UpdR.there)) (by repeat (first | exact PutR.nil _ | apply PutR.here | apply PutR.skip)) ?_
        exact TL.nil ⟨rfl, g5, g6, ⟨by repeat (first | exact Agree.nil | refine Agree.cons rfl ?_), by repeat (first | exact List.nil_sublist _ | exact List.Sublist.refl _ | apply List.Sublist.cons_cons | apply List.Sublist.cons)⟩⟩
      · exact absurd (hb 4 (by simp)) (by decide +kernel)
    · exact absurd (hb 4 (by simp)) (by decide +kernel)
  · rintro env' H' ⟨g5, g6, ha⟩
    refine TC.at ha ?_
    refine TC.seq ?_
    refine TC.freezeBox 5 (List.cons_ne_nil _ _) (.here _) rfl ?_
    refine TC.freezeBox 6 (List.cons_ne_nil _ _) (.here _) rfl ?_
    refine TC.regionCut [14, 15, 16, 17, 18, 19, 20, 21, 22, 23, 24, 25, 26, 27, 28, 29, 30, 31, 32, 33, 34, 35, 36, 37, 38, 39, 40, 41, 42, 43, 44, 45, 46, 47, 48, 49, 50, 51, 52] 52 (False) ?_ ?_
    · skip
      first | refine TL.run1 (pure_fieldAddr Ty.f33_0 rfl (.zero _) (List.cons_ne_nil _ _)) rfl ?_ | refine TL.run1 (pure_fieldAddr_own Ty.f33_0 rfl) rfl ?_
      first | refine TL.run1 (pure_load1 Ty.one27 rfl) rfl ?_ | refine TL.run1 (pure_load1_own Ty.one27 rfl (by repeat (first | exact List.Mem.head _ | apply List.Mem.tail)) (by repeat (first | exact DropR.zero _ | apply DropR.succ))) rfl ?_
      first | refine TL.run1 (pure_len Ty.sl27 rfl) rfl ?_ | refine TL.run1 (pure_len_row Ty.sl27 rfl (by repeat (first | exact List.Mem.head _ | apply List.Mem.tail))) rfl ?_ | refine TL.run1 (pure_len_nil Ty.sl27 rfl) rfl ?_
      first | refine TL.run1 (pure_fieldAddr Ty.f33_0 rfl (.zero _) (List.cons_ne_nil _ _)) rfl ?_ | refine TL.run1 (pure_fieldAddr_own Ty.f33_0 rfl) rfl ?_
      first | refine TL.run1 (pure_load1 Ty.one27 rfl) rfl ?_ | refine TL.run1 (pure_load1_own Ty.one27 rfl (by repeat (first | exact List.Mem.head _ | apply List.Mem.tail)) (by repeat (first | exact DropR.zero _ | apply DropR.succ))) rfl ?_
      first | refine TL.run1 (pure_len Ty.sl27 rfl) rfl ?_ | refine TL.run1 (pure_len_row Ty.sl27 rfl (by repeat (first | exact List.Mem.head _ | apply List.Mem.tail))) rfl ?_ | refine TL.run1 (pure_len_nil Ty.sl27 rfl) rfl ?_
      refine TL.run1 (pure_neq rfl rfl) rfl ?_
      refine TL.run1 (pure_move rfl) rfl ?_
      first | refine TL.splitP 21 rfl (fun hg21 => ?_) (fun hg21 => ?_) | refine TL.split 21 rfl (fun hg21 => ?_) (fun hg21 => ?_)
      · try dsimp only at hg21
        refine TL.passG rfl rfl rfl rfl ?_
        refine TL.passG rfl rfl rfl rfl ?_
        refine TL.passG rfl rfl rfl rfl ?_
        refine TL.passG rfl rfl rfl rfl ?_
        refine TL.passG rfl rfl rfl rfl ?_
        refine TL.run1 (pure_pick_true rfl rfl) rfl ?_
        refine TL.run1 (pure_move rfl) rfl ?_
        refine TL.passG rfl rfl rfl rfl ?_
        refine TL.passG rfl rfl rfl rfl ?_
        refine TL.passG rfl rfl rfl rfl ?_
        refine TL.passG rfl rfl rfl rfl ?_
        refine TL.passG rfl rfl rfl rfl ?_
        refine TL.run1 (pure_pick_true rfl rfl) rfl ?_
        refine TL.run1 (pure_move rfl) rfl ?_
        refine TL.passG rfl rfl rfl rfl ?_
        refine TL.passG rfl rfl rfl rfl ?_
        refine TL.passG rfl rfl rfl rfl ?_
        refine TL.passG rfl rfl rfl rfl ?_
        refine TL.passG rfl rfl rfl rfl ?_
        refine TL.passG rfl rfl rfl rfl ?_
        refine TL.passG rfl rfl rfl rfl ?_
        refine TL.run1 (pure_pick_true rfl rfl) rfl ?_
        refine TL.run1 (pure_move rfl) rfl ?_
        refine TL.passG rfl rfl rfl rfl ?_
        refine TL.passG rfl rfl rfl rfl ?_
        refine TL.passG rfl rfl rfl rfl ?_
        refine TL.passG rfl rfl rfl rfl ?_
        refine TL.passG rfl rfl rfl rfl ?_
        refine TL.passG rfl rfl rfl rfl ?_
        refine TL.passG rfl rfl rfl rfl ?_
        refine TL.run1 (pure_pick_true rfl rfl) rfl ?_
        refine TL.cutEnd (by repeat (first | exact Same.refl _ _ | refine Same.put rfl ?_)) rfl ?_
        first | (simp_all; done) | grind
      · try dsimp only at hg21
        first | refine TL.runG rfl rfl (pure_fieldAddr Ty.f31_0 rfl (.zero _) (List.cons_ne_nil _ _)) rfl ?_ | refine TL.runG rfl rfl (pure_fieldAddr_own Ty.f31_0 rfl) rfl ?_
        first | refine TL.runG rfl rfl (pure_load1 Ty.one3 rfl) rfl ?_ | refine TL.runG rfl rfl (pure_load1_own Ty.one3 rfl (by repeat (first | exact List.Mem.head _ | apply List.Mem.tail)) (by repeat (first | exact DropR.zero _ | apply DropR.succ))) rfl ?_
        first | refine TL.runG rfl rfl (pure_fieldAddr Ty.f31_0 rfl (.zero _) (List.cons_ne_nil _ _)) rfl ?_ | refine TL.runG rfl rfl (pure_fieldAddr_own Ty.f31_0 rfl) rfl ?_
        first | refine TL.runG rfl rfl (pure_load1 Ty.one3 rfl) rfl ?_ | refine TL.runG rfl rfl (pure_load1_own Ty.one3 rfl (by repeat (first | exact List.Mem.head _ | apply List.Mem.tail)) (by repeat (first | exact DropR.zero _ | apply DropR.succ))) rfl ?_
        refine TL.runG rfl rfl (pure_neq rfl rfl) rfl ?_
        refine TL.run1 (pure_pick_false rfl rfl) rfl ?_
        refine TL.run1 (pure_move rfl) rfl ?_
        first | refine TL.splitP 28 rfl (fun hg28 => ?_) (fun hg28 => ?_) | refine TL.split 28 rfl (fun hg28 => ?_) (fun hg28 => ?_)
        · try dsimp only at hg28
          refine TL.passG rfl rfl rfl rfl ?_
          refine TL.passG rfl rfl rfl rfl ?_
          refine TL.passG rfl rfl rfl rfl ?_
          refine TL.passG rfl rfl rfl rfl ?_
          refine TL.passG rfl rfl rfl rfl ?_
          refine TL.run1 (pure_pick_true rfl rfl) rfl ?_
          refine TL.run1 (pure_move rfl) rfl ?_
          refine TL.passG rfl rfl rfl rfl ?_
          refine TL.passG rfl rfl rfl rfl ?_
          refine TL.passG rfl rfl rfl rfl ?_
          refine TL.passG rfl rfl rfl rfl ?_
          refine TL.passG rfl rfl rfl rfl ?_
          refine TL.passG rfl rfl rfl rfl ?_
          refine TL.passG rfl rfl rfl rfl ?_
          refine TL.run1 (pure_pick_true rfl rfl) rfl ?_
          refine TL.run1 (pure_move rfl) rfl ?_
          refine TL.passG rfl rfl rfl rfl ?_
          refine TL.passG rfl rfl rfl rfl ?_
          refine TL.passG rfl rfl rfl rfl ?_
          refine TL.passG rfl rfl rfl rfl ?_
          refine TL.passG rfl rfl rfl rfl ?_
          refine TL.passG rfl rfl rfl rfl ?_
          refine TL.passG rfl rfl rfl rfl ?_
          refine TL.run1 (pure_pick_true rfl rfl) rfl ?_
          refine TL.cutEnd (by repeat (first | exact Same.refl _ _ | refine Same.put rfl ?_)) rfl ?_
          first | (simp_all; done) | grind
        · try dsimp only at hg28
          first | refine TL.runG rfl rfl (pure_fieldAddr Ty.f31_1 rfl (.succ (.zero _)) (List.cons_ne_nil _ _)) rfl ?_ | refine TL.runG rfl rfl (pure_fieldAddr_own Ty.f31_1 rfl) rfl ?_
          first | refine TL.runG rfl rfl (pure_load1 Ty.one3 rfl) rfl ?_ | refine TL.runG rfl rfl (pure_load1_own Ty.one3 rfl (by repeat (first | exact List.Mem.head _ | apply List.Mem.tail)) (by repeat (first | exact DropR.zero _ | apply DropR.succ))) rfl ?_
          first | refine TL.runG rfl rfl (pure_fieldAddr Ty.f31_1 rfl (.succ (.zero _)) (List.cons_ne_nil _ _)) rfl ?_ | refine TL.runG rfl rfl (pure_fieldAddr_own Ty.f31_1 rfl) rfl ?_
          first | refine TL.runG rfl rfl (pure_load1 Ty.one3 rfl) rfl ?_ | refine TL.runG rfl rfl (pure_load1_own Ty.one3 rfl (by repeat (first | exact List.Mem.head _ | apply List.Mem.tail)) (by repeat (first | exact DropR.zero _ | apply DropR.succ))) rfl ?_
          refine TL.runG rfl rfl (pure_neq rfl rfl) rfl ?_
          refine TL.run1 (pure_pick_false rfl rfl) rfl ?_
          refine TL.run1 (pure_move rfl) rfl ?_
          first | refine TL.splitP 35 rfl (fun hg35 => ?_) (fun hg35 => ?_) | refine TL.split 35 rfl (fun hg35 => ?_) (fun hg35 => ?_)
          · try dsimp only at hg35
            refine TL.passG rfl rfl rfl rfl ?_
            refine TL.passG rfl rfl rfl rfl ?_
            refine TL.passG rfl rfl rfl rfl ?_
            refine TL.passG rfl rfl rfl rfl ?_
            refine TL.passG rfl rfl rfl rfl ?_
            refine TL.passG rfl rfl rfl rfl ?_
            refine TL.passG rfl rfl rfl rfl ?_
            refine TL.run1 (pure_pick_true rfl rfl) rfl ?_
            refine TL.run1 (pure_move rfl) rfl ?_
            refine TL.passG rfl rfl rfl rfl ?_
            refine TL.passG rfl rfl rfl rfl ?_
            refine TL.passG rfl rfl rfl rfl ?_
            refine TL.passG rfl rfl rfl rfl ?_
            refine TL.passG rfl rfl rfl rfl ?_
            refine TL.passG rfl rfl rfl rfl ?_
            refine TL.passG rfl rfl rfl rfl ?_
            refine TL.run1 (pure_pick_true rfl rfl) rfl ?_
            refine TL.cutEnd (by repeat (first | exact Same.refl _ _ | refine Same.put rfl ?_)) rfl ?_
            first | (simp_all; done) | grind
          · try dsimp only at hg35
            first | refine TL.runG rfl rfl (pure_fieldAddr Ty.f31_2 rfl (.succ (.succ (.zero _))) (List.cons_ne_nil _ _)) rfl ?_ | refine TL.runG rfl rfl (pure_fieldAddr_own Ty.f31_2 rfl) rfl ?_
            first | refine TL.runG rfl rfl (pure_load1 Ty.one28 rfl) rfl ?_ | refine TL.runG rfl rfl (pure_load1_own Ty.one28 rfl (by repeat (first | exact List.Mem.head _ | apply List.Mem.tail)) (by repeat (first | exact DropR.zero _ | apply DropR.succ))) rfl ?_
            first | refine TL.runG rfl rfl (pure_len Ty.sl28 rfl) rfl ?_ | refine TL.runG rfl rfl (pure_len_row Ty.sl28 rfl (by repeat (first | exact List.Mem.head _ | apply List.Mem.tail))) rfl ?_ | refine TL.runG rfl rfl (pure_len_nil Ty.sl28 rfl) rfl ?_
            first | refine TL.runG rfl rfl (pure_fieldAddr Ty.f31_2 rfl (.succ (.succ (.zero _))) (List.cons_ne_nil _ _)) rfl ?_ | refine TL.runG rfl rfl (pure_fieldAddr_own Ty.f31_2 rfl) rfl ?_
            first | refine TL.runG rfl rfl (pure_load1 Ty.one28 rfl) rfl ?_ | refine TL.runG rfl rfl (pure_load1_own Ty.one28 rfl (by repeat (first | exact List.Mem.head _ | apply List.Mem.tail)) (by repeat (first | exact DropR.zero _ | apply DropR.succ))) rfl ?_
            first | refine TL.runG rfl rfl (pure_len Ty.sl28 rfl) rfl ?_ | refine TL.runG rfl rfl (pure_len_row Ty.sl28 rfl (by repeat (first | exact List.Mem.head _ | apply List.Mem.tail))) rfl ?_ | refine TL.runG rfl rfl (pure_len_nil Ty.sl28 rfl) rfl ?_
            refine TL.runG rfl rfl (pure_neq rfl rfl) rfl ?_
            refine TL.run1 (pure_pick_false rfl rfl) rfl ?_
            refine TL.run1 (pure_move rfl) rfl ?_
            first | refine TL.splitP 44 rfl (fun hg44 => ?_) (fun hg44 => ?_) | refine TL.split 44 rfl (fun hg44 => ?_) (fun hg44 => ?_)
            · try dsimp only at hg44
              refine TL.passG rfl rfl rfl rfl ?_
              refine TL.passG rfl rfl rfl rfl ?_
              refine TL.passG rfl rfl rfl rfl ?_
              refine TL.passG rfl rfl rfl rfl ?_
              refine TL.passG rfl rfl rfl rfl ?_
              refine TL.passG rfl rfl rfl rfl ?_
              refine TL.passG rfl rfl rfl rfl ?_
              refine TL.run1 (pure_pick_true rfl rfl) rfl ?_
              refine TL.cutEnd (by repeat (first | exact Same.refl _ _ | refine Same.put rfl ?_)) rfl ?_
              first | (simp_all; done) | grind
            · try dsimp only at hg44
              first | refine TL.runG rfl rfl (pure_fieldAddr Ty.f31_3 rfl (.succ (.succ (.succ (.zero _)))) (List.cons_ne_nil _ _)) rfl ?_ | refine TL.runG rfl rfl (pure_fieldAddr_own Ty.f31_3 rfl) rfl ?_
              first | refine TL.runG rfl rfl (pure_load1 Ty.one29 rfl) rfl ?_ | refine TL.runG rfl rfl (pure_load1_own Ty.one29 rfl (by repeat (first | exact List.Mem.head _ | apply List.Mem.tail)) (by repeat (first | exact DropR.zero _ | apply DropR.succ))) rfl ?_
              first | refine TL.runG rfl rfl (pure_len Ty.sl29 rfl) rfl ?_ | refine TL.runG rfl rfl (pure_len_row Ty.sl29 rfl (by repeat (first | exact List.Mem.head _ | apply List.Mem.tail))) rfl ?_ | refine TL.runG rfl rfl (pure_len_nil Ty.sl29 rfl) rfl ?_
              first | refine TL.runG rfl rfl (pure_fieldAddr Ty.f31_3 rfl (.succ (.succ (.succ (.zero _)))) (List.cons_ne_nil _ _)) rfl ?_ | refine TL.runG rfl rfl (pure_fieldAddr_own Ty.f31_3 rfl) rfl ?_
              first | refine TL.runG rfl rfl (pure_load1 Ty.one29 rfl) rfl ?_ | refine TL.runG rfl rfl (pure_load1_own Ty.one29 rfl (by repeat (first | exact List.Mem.head _ | apply List.Mem.tail)) (by repeat (first | exact DropR.zero _ | apply DropR.succ))) rfl ?_
              first | refine TL.runG rfl rfl (pure_len Ty.sl29 rfl) rfl ?_ | refine TL.runG rfl rfl (pure_len_row Ty.sl29 rfl (by repeat (first | exact List.Mem.head _ | apply List.Mem.tail))) rfl ?_ | refine TL.runG rfl rfl (pure_len_nil Ty.sl29 rfl) rfl ?_
              refine TL.runG rfl rfl (pure_neq rfl rfl) rfl ?_
              refine TL.run1 (pure_pick_false rfl rfl) rfl ?_
              refine TL.cutEnd (by repeat (first | exact Same.refl _ _ | refine Same.put rfl ?_)) rfl ?_
              first | (simp_all; done) | grind
    first | refine TC.condD rfl (fun hc52 => ?_) (fun hc52 => ?_) | refine TC.condN rfl (fun hc52 => ?_) (fun hc52 => ?_) | refine TC.cond rfl (fun hc52 => ?_) (fun hc52 => ?_)
    · try dsimp only at hc52
      all_goals exact absurd hc52 id
    · try dsimp only at hc52
      refine TC.skip' ?_
      refine TC.seq ?_
      refine TC.seq ?_
      refine TC.region ?_
      refine TL.run1 (pure_assign rfl) rfl ?_
      refine TL.nil' ?_
      refine TC.block ?_
      refine TC.loopX (X := Int) (fun i => [(2, .at_ [.sl 2 (encP ps), .v (.int .i64 a), .v (.int .i64 b), .sl 2 (encP dl), .sl 4 (encY ly)]), (3, .at_ [.sl 2 (encP ps), .v (.int .i64 a), .v (.int .i64 b), .sl 2 (encP dl), .sl 4 (encY ly)]), (5, .at_ [.v (.int .i64 a), .v (.int .i64 b), .sl 2 (encP dl), .sl 4 (encY ly)]), (6, .at_ [.v (.int .i64 a), .v (.int .i64 b), .sl 2 (encP dl), .sl 4 (encY ly)]), (7, .v (.int .i64 i))]) (fun i => []) (fun i => (0 ≤ i) ∧ (i ≤ ps.length)) (fun i => (ps.length - i).toNat) (0) ⟨by skip; repeat (first | exact Agree.nil | refine Agree.cons rfl ?_), by skip; repeat (first | exact List.nil_sublist _ | exact List.Sublist.refl _ | apply List.Sublist.cons_cons | apply List.Sublist.cons)⟩ ?_ ?_
      · skip
        exact ⟨Int.le_refl _, by omega⟩
      intro i
      rintro ⟨h0, h1⟩
      show TC _ _ _ (Env.of [(2, .at_ [.sl 2 (encP ps), .v (.int .i64 a), .v (.int .i64 b), .sl 2 (encP dl), .sl 4 (encY ly)]), (3, .at_ [.sl 2 (encP ps), .v (.int .i64 a), .v (.int .i64 b), .sl 2 (encP dl), .sl 4 (encY ly)]), (5, .at_ [.v (.int .i64 a), .v (.int .i64 b), .sl 2 (encP dl), .sl 4 (encY ly)]), (6, .at_ [.v (.int .i64 a), .v (.int .i64 b), .sl 2 (encP dl), .sl 4 (encY ly)]), (7, .v (.int .i64 i))]) []
      refine TC.seq ?_
      refine TC.seq ?_
      refine TC.region ?_
      refine TL.run1 (pure_move rfl) rfl ?_
      first | refine TL.run1 (pure_fieldAddr Ty.f33_0 rfl (.zero _) (List.cons_ne_nil _ _)) rfl ?_ | refine TL.run1 (pure_fieldAddr_own Ty.f33_0 rfl) rfl ?_
      first | refine TL.run1 (pure_load1 Ty.one27 rfl) rfl ?_ | refine TL.run1 (pure_load1_own Ty.one27 rfl (by repeat (first | exact List.Mem.head _ | apply List.Mem.tail)) (by repeat (first | exact DropR.zero _ | apply DropR.succ))) rfl ?_
      first | refine TL.run1 (pure_len Ty.sl27 rfl) rfl ?_ | refine TL.run1 (pure_len_row Ty.sl27 rfl (by repeat (first | exact List.Mem.head _ | apply List.Mem.tail))) rfl ?_ | refine TL.run1 (pure_len_nil Ty.sl27 rfl) rfl ?_
      refine TL.run1 (pure_lss rfl rfl) rfl ?_
      refine TL.nil' ?_
      first | refine TC.condD rfl (fun hc57 => ?_) (fun hc57 => ?_) | refine TC.condN rfl (fun hc57 => ?_) (fun hc57 => ?_) | refine TC.cond rfl (fun hc57 => ?_) (fun hc57 => ?_)
      · try dsimp only at hc57
        refine TC.skip' ?_
        refine TC.seq ?_
        refine TC.block ?_
        refine TC.seq ?_
        have hx := encP_get ps i h0 (by omega)
        refine TC.draw Ty.follows (by kernel_rfl) ?_
        first | refine TD.run1 (pure_fieldAddr Ty.f33_0 rfl (.zero _) (List.cons_ne_nil _ _)) rfl ?_ | refine TD.run1 (pure_fieldAddr_own Ty.f33_0 rfl) rfl ?_
        first | refine TD.run1 (pure_load1 Ty.one27 rfl) rfl ?_ | refine TD.run1 (pure_load1_own Ty.one27 rfl (by repeat (first | exact List.Mem.head _ | apply List.Mem.tail)) (by repeat (first | exact DropR.zero _ | apply DropR.succ))) rfl ?_
        refine TD.run1 (pure_move rfl) rfl ?_
        refine TD.run1 (pure_indexAddr Ty.sl27 rfl rfl (by omega) hx (List.cons_ne_nil _ _)) rfl ?_
        first | refine TD.run1 (pure_load Ty.agg77 rfl (.succ (.succ (.zero _)))) rfl ?_ | refine TD.run1 (pure_load_own Ty.agg77 rfl (by repeat (first | exact List.Mem.head _ | apply List.Mem.tail)) (by repeat (first | exact DropR.zero _ | apply DropR.succ)) (.succ (.succ (.zero _)))) rfl ?_
        first | refine TD.run1 (pure_fieldAddr Ty.f33_0 rfl (.zero _) (List.cons_ne_nil _ _)) rfl ?_ | refine TD.run1 (pure_fieldAddr_own Ty.f33_0 rfl) rfl ?_
        first | refine TD.run1 (pure_load1 Ty.one27 rfl) rfl ?_ | refine TD.run1 (pure_load1_own Ty.one27 rfl (by repeat (first | exact List.Mem.head _ | apply List.Mem.tail)) (by repeat (first | exact DropR.zero _ | apply DropR.succ))) rfl ?_
        refine TD.run1 (pure_move rfl) rfl ?_
        refine TD.run1 (pure_indexAddr Ty.sl27 rfl rfl (by omega) hx (List.cons_ne_nil _ _)) rfl ?_
        first | refine TD.run1 (pure_load Ty.agg77 rfl (.succ (.succ (.zero _)))) rfl ?_ | refine TD.run1 (pure_load_own Ty.agg77 rfl (by repeat (first | exact List.Mem.head _ | apply List.Mem.tail)) (by repeat (first | exact DropR.zero _ | apply DropR.succ)) (.succ (.succ (.zero _)))) rfl ?_
        refine TD.run1 (pure_neq_agg Ty.eq77 rfl rfl (.cons (.cons .nil)) (.cons (.cons .nil)) rfl rfl) rfl ?_
        refine TD.nil' ?_
        first | refine TC.condD rfl (fun hc70 => ?_) (fun hc70 => ?_) | refine TC.condN rfl (fun hc70 => ?_) (fun hc70 => ?_) | refine TC.cond rfl (fun hc70 => ?_) (fun hc70 => ?_)
        · try dsimp only at hc70
          exact absurd rfl hc70
        · try dsimp only at hc70
          refine TC.skip ?_
          refine block_normal ?_
          refine then_normal ?_
          refine TC.region ?_
          refine TL.run1 (pure_move rfl) rfl ?_
          refine TL.run1 (pure_add rfl rfl (mkI64 (by omega) (by omega))) rfl ?_
          refine TL.run1 (pure_assign rfl) rfl ?_
          refine TL.nil ?_
          refine loop_next (i + 1) ⟨by repeat (first | exact Agree.nil | refine Agree.cons rfl ?_), by repeat (first | exact List.nil_sublist _ | exact List.Sublist.refl _ | apply List.Sublist.cons_cons | apply List.Sublist.cons)⟩ ⟨by omega, by omega⟩ (by omega)
      · try dsimp only at hc57
        refine TC.exit ?_
        refine then_exit ?_
        refine loop_exit ?_
        refine block_here ?_
        refine then_normal ?_
        refine TC.seq ?_
        refine TC.seq ?_
        refine TC.region ?_
        refine TL.run1 (pure_assign rfl) rfl ?_
        refine TL.nil' ?_
        refine TC.block ?_
        refine TC.loopX (X := Int) (fun i => [(2, .at_ [.sl 2 (encP ps), .v (.int .i64 a), .v (.int .i64 b), .sl 2 (encP dl), .sl 4 (encY ly)]), (3, .at_ [.sl 2 (encP ps), .v (.int .i64 a), .v (.int .i64 b), .sl 2 (encP dl), .sl 4 (encY ly)]), (5, .at_ [.v (.int .i64 a), .v (.int .i64 b), .sl 2 (encP dl), .sl 4 (encY ly)]), (6, .at_ [.v (.int .i64 a), .v (.int .i64 b), .sl 2 (encP dl), .sl 4 (encY ly)]), (8, .v (.int .i64 i))]) (fun i => []) (fun i => (0 ≤ i) ∧ (i ≤ dl.length)) (fun i => (dl.length - i).toNat) (0) ⟨by skip; repeat (first | exact Agree.nil | refine Agree.cons rfl ?_), by skip; repeat (first | exact List.nil_sublist _ | exact List.Sublist.refl _ | apply List.Sublist.cons_cons | apply List.Sublist.cons)⟩ ?_ ?_
        · skip
          exact ⟨Int.le_refl _, by omega⟩
        intro i
        rintro ⟨h0, h1⟩
        show TC _ _ _ (Env.of [(2, .at_ [.sl 2 (encP ps), .v (.int .i64 a), .v (.int .i64 b), .sl 2 (encP dl), .sl 4 (encY ly)]), (3, .at_ [.sl 2 (encP ps), .v (.int .i64 a), .v (.int .i64 b), .sl 2 (encP dl), .sl 4 (encY ly)]), (5, .at_ [.v (.int .i64 a), .v (.int .i64 b), .sl 2 (encP dl), .sl 4 (encY ly)]), (6, .at_ [.v (.int .i64 a), .v (.int .i64 b), .sl 2 (encP dl), .sl 4 (encY ly)]), (8, .v (.int .i64 i))]) []
        refine TC.seq ?_
        refine TC.seq ?_
        refine TC.region ?_
        refine TL.run1 (pure_move rfl) rfl ?_
        first | refine TL.run1 (pure_fieldAddr Ty.f31_2 rfl (.succ (.succ (.zero _))) (List.cons_ne_nil _ _)) rfl ?_ | refine TL.run1 (pure_fieldAddr_own Ty.f31_2 rfl) rfl ?_
        first | refine TL.run1 (pure_load1 Ty.one28 rfl) rfl ?_ | refine TL.run1 (pure_load1_own Ty.one28 rfl (by repeat (first | exact List.Mem.head _ | apply List.Mem.tail)) (by repeat (first | exact DropR.zero _ | apply DropR.succ))) rfl ?_
        first | refine TL.run1 (pure_len Ty.sl28 rfl) rfl ?_ | refine TL.run1 (pure_len_row Ty.sl28 rfl (by repeat (first | exact List.Mem.head _ | apply List.Mem.tail))) rfl ?_ | refine TL.run1 (pure_len_nil Ty.sl28 rfl) rfl ?_
        refine TL.run1 (pure_lss rfl rfl) rfl ?_
        refine TL.nil' ?_
        first | refine TC.condD rfl (fun hc75 => ?_) (fun hc75 => ?_) | refine TC.condN rfl (fun hc75 => ?_) (fun hc75 => ?_) | refine TC.cond rfl (fun hc75 => ?_) (fun hc75 => ?_)
        · try dsimp only at hc75
          refine TC.skip' ?_
          refine TC.seq ?_
          refine TC.block ?_
          refine TC.seq ?_
          have hx := encP_get dl i h0 (by omega)
          refine TC.draw Ty.follows (by kernel_rfl) ?_
          first | refine TD.run1 (pure_fieldAddr Ty.f31_2 rfl (.succ (.succ (.zero _))) (List.cons_ne_nil _ _)) rfl ?_ | refine TD.run1 (pure_fieldAddr_own Ty.f31_2 rfl) rfl ?_
          first | refine TD.run1 (pure_load1 Ty.one28 rfl) rfl ?_ | refine TD.run1 (pure_load1_own Ty.one28 rfl (by repeat (first | exact List.Mem.head _ | apply List.Mem.tail)) (by repeat (first | exact DropR.zero _ | apply DropR.succ))) rfl ?_
          refine TD.run1 (pure_move rfl) rfl ?_
          refine TD.run1 (pure_indexAddr Ty.sl28 rfl rfl (by omega) hx (List.cons_ne_nil _ _)) rfl ?_
          first | refine TD.run1 (pure_load Ty.agg111 rfl (.succ (.succ (.zero _)))) rfl ?_ | refine TD.run1 (pure_load_own Ty.agg111 rfl (by repeat (first | exact List.Mem.head _ | apply List.Mem.tail)) (by repeat (first | exact DropR.zero _ | apply DropR.succ)) (.succ (.succ (.zero _)))) rfl ?_
          first | refine TD.run1 (pure_fieldAddr Ty.f31_2 rfl (.succ (.succ (.zero _))) (List.cons_ne_nil _ _)) rfl ?_ | refine TD.run1 (pure_fieldAddr_own Ty.f31_2 rfl) rfl ?_
          first | refine TD.run1 (pure_load1 Ty.one28 rfl) rfl ?_ | refine TD.run1 (pure_load1_own Ty.one28 rfl (by repeat (first | exact List.Mem.head _ | apply List.Mem.tail)) (by repeat (first | exact DropR.zero _ | apply DropR.succ))) rfl ?_
          refine TD.run1 (pure_move rfl) rfl ?_
          refine TD.run1 (pure_indexAddr Ty.sl28 rfl rfl (by omega) hx (List.cons_ne_nil _ _)) rfl ?_
          first | refine TD.run1 (pure_load Ty.agg111 rfl (.succ (.succ (.zero _)))) rfl ?_ | refine TD.run1 (pure_load_own Ty.agg111 rfl (by repeat (first | exact List.Mem.head _ | apply List.Mem.tail)) (by repeat (first | exact DropR.zero _ | apply DropR.succ)) (.succ (.succ (.zero _)))) rfl ?_
          refine TD.run1 (pure_neq_agg Ty.eq111 rfl rfl (.cons (.cons .nil)) (.cons (.cons .nil)) rfl rfl) rfl ?_
          refine TD.nil' ?_
          first | refine TC.condD rfl (fun hc88 => ?_) (fun hc88 => ?_) | refine TC.condN rfl (fun hc88 => ?_) (fun hc88 => ?_) | refine TC.cond rfl (fun hc88 => ?_) (fun hc88 => ?_)
          · try dsimp only at hc88
            exact absurd rfl hc88
          · try dsimp only at hc88
            refine TC.skip ?_
            refine block_normal ?_
            refine then_normal ?_
            refine TC.region ?_
            refine TL.run1 (pure_move rfl) rfl ?_
            refine TL.run1 (pure_add rfl rfl (mkI64 (by omega) (by omega))) rfl ?_
            refine TL.run1 (pure_assign rfl) rfl ?_
            refine TL.nil ?_
            refine loop_next (i + 1) ⟨by repeat (first | exact Agree.nil | refine Agree.cons rfl ?_), by repeat (first | exact List.nil_sublist _ | exact List.Sublist.refl _ | apply List.Sublist.cons_cons | apply List.Sublist.cons)⟩ ⟨by omega, by omega⟩ (by omega)
        · try dsimp only at hc75
          refine TC.exit ?_
          refine then_exit ?_
          refine loop_exit ?_
          refine block_here ?_
          refine then_normal ?_
          refine TC.seq ?_
          refine TC.seq ?_
          refine TC.region ?_
          refine TL.run1 (pure_assign rfl) rfl ?_
          refine TL.nil' ?_
          refine TC.block ?_
          refine TC.loopX (X := Int) (fun i => [(2, .at_ [.sl 2 (encP ps), .v (.int .i64 a), .v (.int .i64 b), .sl 2 (encP dl), .sl 4 (encY ly)]), (3, .at_ [.sl 2 (encP ps), .v (.int .i64 a), .v (.int .i64 b), .sl 2 (encP dl), .sl 4 (encY ly)]), (5, .at_ [.v (.int .i64 a), .v (.int .i64 b), .sl 2 (encP dl), .sl 4 (encY ly)]), (6, .at_ [.v (.int .i64 a), .v (.int .i64 b), .sl 2 (encP dl), .sl 4 (encY ly)]), (9, .v (.int .i64 i))]) (fun i => []) (fun i => (0 ≤ i) ∧ (i ≤ ly.length)) (fun i => (ly.length - i).toNat) (0) ⟨by skip; repeat (first | exact Agree.nil | refine Agree.cons rfl ?_), by skip; repeat (first | exact List.nil_sublist _ | exact List.Sublist.refl _ | apply List.Sublist.cons_cons | apply List.Sublist.cons)⟩ ?_ ?_
          · skip
            exact ⟨Int.le_refl _, by omega⟩
          intro i
          rintro ⟨h0, h1⟩
          show TC _ _ _ (Env.of [(2, .at_ [.sl 2 (encP ps), .v (.int .i64 a), .v (.int .i64 b), .sl 2 (encP dl), .sl 4 (encY ly)]), (3, .at_ [.sl 2 (encP ps), .v (.int .i64 a), .v (.int .i64 b), .sl 2 (encP dl), .sl 4 (encY ly)]), (5, .at_ [.v (.int .i64 a), .v (.int .i64 b), .sl 2 (encP dl), .sl 4 (encY ly)]), (6, .at_ [.v (.int .i64 a), .v (.int .i64 b), .sl 2 (encP dl), .sl 4 (encY ly)]), (9, .v (.int .i64 i))]) []
          refine TC.seq ?_
          refine TC.seq ?_
          refine TC.region ?_
          refine TL.run1 (pure_move rfl) rfl ?_
          first | refine TL.run1 (pure_fieldAddr Ty.f31_3 rfl (.succ (.succ (.succ (.zero _)))) (List.cons_ne_nil _ _)) rfl ?_ | refine TL.run1 (pure_fieldAddr_own Ty.f31_3 rfl) rfl ?_
          first | refine TL.run1 (pure_load1 Ty.one29 rfl) rfl ?_ | refine TL.run1 (pure_load1_own Ty.one29 rfl (by repeat (first | exact List.Mem.head _ | apply List.Mem.tail)) (by repeat (first | exact DropR.zero _ | apply DropR.succ))) rfl ?_
          first | refine TL.run1 (pure_len Ty.sl29 rfl) rfl ?_ | refine TL.run1 (pure_len_row Ty.sl29 rfl (by repeat (first | exact List.Mem.head _ | apply List.Mem.tail))) rfl ?_ | refine TL.run1 (pure_len_nil Ty.sl29 rfl) rfl ?_
          refine TL.run1 (pure_lss rfl rfl) rfl ?_
          refine TL.nil' ?_
          first | refine TC.condD rfl (fun hc93 => ?_) (fun hc93 => ?_) | refine TC.condN rfl (fun hc93 => ?_) (fun hc93 => ?_) | refine TC.cond rfl (fun hc93 => ?_) (fun hc93 => ?_)
          · try dsimp only at hc93
            refine TC.skip' ?_
            refine TC.seq ?_
            refine TC.block ?_
            refine TC.seq ?_
            have hx := encY_get ly i h0 (by omega)
            refine TC.draw Ty.follows (by kernel_rfl) ?_
            first | refine TD.run1 (pure_fieldAddr Ty.f31_3 rfl (.succ (.succ (.succ (.zero _)))) (List.cons_ne_nil _ _)) rfl ?_ | refine TD.run1 (pure_fieldAddr_own Ty.f31_3 rfl) rfl ?_
            first | refine TD.run1 (pure_load1 Ty.one29 rfl) rfl ?_ | refine TD.run1 (pure_load1_own Ty.one29 rfl (by repeat (first | exact List.Mem.head _ | apply List.Mem.tail)) (by repeat (first | exact DropR.zero _ | apply DropR.succ))) rfl ?_
            refine TD.run1 (pure_move rfl) rfl ?_
            refine TD.run1 (pure_indexAddr Ty.sl29 rfl rfl (by omega) hx (List.cons_ne_nil _ _)) rfl ?_
            first | refine TD.run1 (pure_load Ty.agg113 rfl (.succ (.succ (.succ (.succ (.zero _)))))) rfl ?_ | refine TD.run1 (pure_load_own Ty.agg113 rfl (by repeat (first | exact List.Mem.head _ | apply List.Mem.tail)) (by repeat (first | exact DropR.zero _ | apply DropR.succ)) (.succ (.succ (.succ (.succ (.zero _)))))) rfl ?_
            first | refine TD.run1 (pure_fieldAddr Ty.f31_3 rfl (.succ (.succ (.succ (.zero _)))) (List.cons_ne_nil _ _)) rfl ?_ | refine TD.run1 (pure_fieldAddr_own Ty.f31_3 rfl) rfl ?_
            first | refine TD.run1 (pure_load1 Ty.one29 rfl) rfl ?_ | refine TD.run1 (pure_load1_own Ty.one29 rfl (by repeat (first | exact List.Mem.head _ | apply List.Mem.tail)) (by repeat (first | exact DropR.zero _ | apply DropR.succ))) rfl ?_
            refine TD.run1 (pure_move rfl) rfl ?_
            refine TD.run1 (pure_indexAddr Ty.sl29 rfl rfl (by omega) hx (List.cons_ne_nil _ _)) rfl ?_
            first | refine TD.run1 (pure_load Ty.agg113 rfl (.succ (.succ (.succ (.succ (.zero _)))))) rfl ?_ | refine TD.run1 (pure_load_own Ty.agg113 rfl (by repeat (first | exact List.Mem.head _ | apply List.Mem.tail)) (by repeat (first | exact DropR.zero _ | apply DropR.succ)) (.succ (.succ (.succ (.succ (.zero _)))))) rfl ?_
            refine TD.run1 (pure_neq_mv Ty.eqm113 rfl rfl (.i (.i (.i (.b .nil)))) (.i (.i (.i (.b .nil)))) rfl rfl) rfl ?_
            refine TD.nil' ?_
            first | refine TC.condD rfl (fun hc106 => ?_) (fun hc106 => ?_) | refine TC.condN rfl (fun hc106 => ?_) (fun hc106 => ?_) | refine TC.cond rfl (fun hc106 => ?_) (fun hc106 => ?_)
            · try dsimp only at hc106
              exact absurd rfl hc106
            · try dsimp only at hc106
              refine TC.skip ?_
              refine block_normal ?_
              refine then_normal ?_
              refine TC.region ?_
              refine TL.run1 (pure_move rfl) rfl ?_
              refine TL.run1 (pure_add rfl rfl (mkI64 (by omega) (by omega))) rfl ?_
              refine TL.run1 (pure_assign rfl) rfl ?_
              refine TL.nil ?_
              refine loop_next (i + 1) ⟨by repeat (first | exact Agree.nil | refine Agree.cons rfl ?_), by repeat (first | exact List.nil_sublist _ | exact List.Sublist.refl _ | apply List.Sublist.cons_cons | apply List.Sublist.cons)⟩ ⟨by omega, by omega⟩ (by omega)
          · try dsimp only at hc93
            refine TC.exit ?_
            refine then_exit ?_
            refine loop_exit ?_
            refine block_here ?_
            refine then_normal ?_
            refine TC.seq ?_
            refine TC.region ?_
            refine TL.run1 (pure_assign rfl) rfl ?_
            refine TL.nil' ?_
            refine TC.ret ?_
            exact ret_bool rfl rfl
theorem Rsame_spec (ds : List D) (h : HeadT ds) : Fun Try.prog 50 [.agg ds, .agg ds] (.v (.bool true)) := by
  obtain ⟨ps, a, b, dl, ly, rfl, h1, h2, h3⟩ := h
  exact Rsame0_spec ps a b dl ly h1 h2 h3
set_option maxHeartbeats 1000000 in
set_option maxRecDepth 100000 in
theorem Rflow_spec (fl : List (List D)) (h : FlowT fl) : Fun Try.prog 51 [.sl 11 fl, .sl 11 fl] (.v (.bool true)) := by
  refine Fun.enter (n := 54) (rs := [.tmp 4]) Try.func51 rfl Try.ntmps51 Try.results51 rfl (fun w F => ?_)
  have hl := h.1
  refine TC.seq ?_
  refine TC.region ?_
  refine TL.run1 (pure_assign rfl) rfl ?_
  refine TL.nil' ?_
  refine TC.seq ?_
  refine TC.seq ?_
  refine TC.region ?_
  refine TL.run1 (pure_move rfl) rfl ?_
  first | refine TL.run1 (pure_len Ty.sl72 rfl) rfl ?_ | refine TL.run1 (pure_len_row Ty.sl72 rfl (by repeat (first | exact List.Mem.head _ | apply List.Mem.tail))) rfl ?_ | refine TL.run1 (pure_len_nil Ty.sl72 rfl) rfl ?_
  refine TL.run1 (pure_move rfl) rfl ?_
  first | refine TL.run1 (pure_len Ty.sl72 rfl) rfl ?_ | refine TL.run1 (pure_len_row Ty.sl72 rfl (by repeat (first | exact List.Mem.head _ | apply List.Mem.tail))) rfl ?_ | refine TL.run1 (pure_len_nil Ty.sl72 rfl) rfl ?_
  refine TL.run1 (pure_neq rfl rfl) rfl ?_
  refine TL.nil' ?_
  first | refine TC.condD rfl (fun hc10 => ?_) (fun hc10 => ?_) | refine TC.condN rfl (fun hc10 => ?_) (fun hc10 => ?_) | refine TC.cond rfl (fun hc10 => ?_) (fun hc10 => ?_)
  · try dsimp only at hc10
    exact absurd rfl hc10
  · try dsimp only at hc10
    refine TC.skip' ?_
    refine TC.seq ?_
    refine TC.seq ?_
    refine TC.region ?_
    refine TL.run1 (pure_assign rfl) rfl ?_
    refine TL.nil' ?_
    refine TC.block ?_
    refine TC.loopX (X := Int) (fun i => [(0, .sl 11 fl), (1, .sl 11 fl), (5, .v (.int .i64 i))]) (fun i => []) (fun i => (0 ≤ i) ∧ (i ≤ fl.length)) (fun i => (fl.length - i).toNat) (0) ⟨by skip; repeat (first | exact Agree.nil | refine Agree.cons rfl ?_), by skip; repeat (first | exact List.nil_sublist _ | exact List.Sublist.refl _ | apply List.Sublist.cons_cons | apply List.Sublist.cons)⟩ ?_ ?_
    · skip
      exact ⟨Int.le_refl _, by omega⟩
    intro i
    rintro ⟨h0, h1⟩
    show TC _ _ _ (Env.of [(0, .sl 11 fl), (1, .sl 11 fl), (5, .v (.int .i64 i))]) []
    refine TC.seq ?_
    refine TC.seq ?_
    refine TC.region ?_
    refine TL.run1 (pure_move rfl) rfl ?_
    refine TL.run1 (pure_move rfl) rfl ?_
    first | refine TL.run1 (pure_len Ty.sl72 rfl) rfl ?_ | refine TL.run1 (pure_len_row Ty.sl72 rfl (by repeat (first | exact List.Mem.head _ | apply List.Mem.tail))) rfl ?_ | refine TL.run1 (pure_len_nil Ty.sl72 rfl) rfl ?_
    refine TL.run1 (pure_lss rfl rfl) rfl ?_
    refine TL.nil' ?_
    first | refine TC.condD rfl (fun hc14 => ?_) (fun hc14 => ?_) | refine TC.condN rfl (fun hc14 => ?_) (fun hc14 => ?_) | refine TC.cond rfl (fun hc14 => ?_) (fun hc14 => ?_)
    · try dsimp only at hc14
      refine TC.skip' ?_
      refine TC.seq ?_
      refine TC.block ?_
      obtain ⟨a, b, c, s, tl, hx⟩ := h.get i h0 (by omega)
      refine TC.drawCut [17, 18, 19, 20, 21, 22, 23, 24, 25, 26, 27, 28, 29, 30, 31, 32, 33, 34, 35, 36, 37, 38, 39, 40, 41, 42, 43, 44, 45, 46, 47, 48, 49, 50, 51, 52, 53] 53 (False) Ty.follows (by kernel_rfl) ?_ ?_
      · skip
        refine TD.run1 (pure_move rfl) rfl ?_
        refine TD.run1 (pure_move rfl) rfl ?_
        refine TD.run1 (pure_indexAddr Ty.sl72 rfl rfl (by omega) hx (List.cons_ne_nil _ _)) rfl ?_
        first | refine TD.run1 (pure_fieldAddr Ty.f115_0 rfl (.zero _) (List.cons_ne_nil _ _)) rfl ?_ | refine TD.run1 (pure_fieldAddr_own Ty.f115_0 rfl) rfl ?_
        first | refine TD.run1 (pure_load1 Ty.one3 rfl) rfl ?_ | refine TD.run1 (pure_load1_own Ty.one3 rfl (by repeat (first | exact List.Mem.head _ | apply List.Mem.tail)) (by repeat (first | exact DropR.zero _ | apply DropR.succ))) rfl ?_
        refine TD.run1 (pure_move rfl) rfl ?_
        refine TD.run1 (pure_move rfl) rfl ?_
        refine TD.run1 (pure_indexAddr Ty.sl72 rfl rfl (by omega) hx (List.cons_ne_nil _ _)) rfl ?_
        first | refine TD.run1 (pure_fieldAddr Ty.f115_0 rfl (.zero _) (List.cons_ne_nil _ _)) rfl ?_ | refine TD.run1 (pure_fieldAddr_own Ty.f115_0 rfl) rfl ?_
        first | refine TD.run1 (pure_load1 Ty.one3 rfl) rfl ?_ | refine TD.run1 (pure_load1_own Ty.one3 rfl (by repeat (first | exact List.Mem.head _ | apply List.Mem.tail)) (by repeat (first | exact DropR.zero _ | apply DropR.succ))) rfl ?_
        refine TD.run1 (pure_neq rfl rfl) rfl ?_
        refine TD.run1 (pure_move rfl) rfl ?_
        first | refine TD.splitP 28 rfl (fun hg28 => ?_) (fun hg28 => ?_) | refine TD.split 28 rfl (fun hg28 => ?_) (fun hg28 => ?_)
        · try dsimp only at hg28
          refine TD.passG rfl rfl rfl rfl ?_
          refine TD.passG rfl rfl rfl rfl ?_
          refine TD.passG rfl rfl rfl rfl ?_
          refine TD.passG rfl rfl rfl rfl ?_
          refine TD.passG rfl rfl rfl rfl ?_
          refine TD.passG rfl rfl rfl rfl ?_
          refine TD.passG rfl rfl rfl rfl ?_
          refine TD.passG rfl rfl rfl rfl ?_
          refine TD.passG rfl rfl rfl rfl ?_
          refine TD.passG rfl rfl rfl rfl ?_
          refine TD.passG rfl rfl rfl rfl ?_
          refine TD.run1 (pure_pick_true rfl rfl) rfl ?_
          refine TD.run1 (pure_move rfl) rfl ?_
          refine TD.passG rfl rfl rfl rfl ?_
          refine TD.passG rfl rfl rfl rfl ?_
          refine TD.passG rfl rfl rfl rfl ?_
          refine TD.passG rfl rfl rfl rfl ?_
          refine TD.passG rfl rfl rfl rfl ?_
          refine TD.passG rfl rfl rfl rfl ?_
          refine TD.passG rfl rfl rfl rfl ?_
          refine TD.passG rfl rfl rfl rfl ?_
          refine TD.passG rfl rfl rfl rfl ?_
          refine TD.passG rfl rfl rfl rfl ?_
          refine TD.passG rfl rfl rfl rfl ?_
          refine TD.run1 (pure_pick_true rfl rfl) rfl ?_
          refine TD.cutEnd (by repeat (first | exact Same.refl _ _ | refine Same.put rfl ?_)) rfl ?_
          first | (simp_all; done) | grind
        · try dsimp only at hg28
          refine TD.runG rfl rfl (pure_move rfl) rfl ?_
          refine TD.runG rfl rfl (pure_move rfl) rfl ?_
          refine TD.runG rfl rfl (pure_indexAddr Ty.sl72 rfl rfl (by omega) hx (List.cons_ne_nil _ _)) rfl ?_
          first | refine TD.runG rfl rfl (pure_fieldAddr Ty.f115_2 rfl (.succ (.succ (.zero _))) (List.cons_ne_nil _ _)) rfl ?_ | refine TD.runG rfl rfl (pure_fieldAddr_own Ty.f115_2 rfl) rfl ?_
          first | refine TD.runG rfl rfl (pure_load1 Ty.one3 rfl) rfl ?_ | refine TD.runG rfl rfl (pure_load1_own Ty.one3 rfl (by repeat (first | exact List.Mem.head _ | apply List.Mem.tail)) (by repeat (first | exact DropR.zero _ | apply DropR.succ))) rfl ?_
          refine TD.runG rfl rfl (pure_move rfl) rfl ?_
          refine TD.runG rfl rfl (pure_move rfl) rfl ?_
          refine TD.runG rfl rfl (pure_indexAddr Ty.sl72 rfl rfl (by omega) hx (List.cons_ne_nil _ _)) rfl ?_
          first | refine TD.runG rfl rfl (pure_fieldAddr Ty.f115_2 rfl (.succ (.succ (.zero _))) (List.cons_ne_nil _ _)) rfl ?_ | refine TD.runG rfl rfl (pure_fieldAddr_own Ty.f115_2 rfl) rfl ?_
          first | refine TD.runG rfl rfl (pure_load1 Ty.one3 rfl) rfl ?_ | refine TD.runG rfl rfl (pure_load1_own Ty.one3 rfl (by repeat (first | exact List.Mem.head _ | apply List.Mem.tail)) (by repeat (first | exact DropR.zero _ | apply DropR.succ))) rfl ?_
          refine TD.runG rfl rfl (pure_neq rfl rfl) rfl ?_
          refine TD.run1 (pure_pick_false rfl rfl) rfl ?_
          refine TD.run1 (pure_move rfl) rfl ?_
          first | refine TD.splitP 41 rfl (fun hg41 => ?_) (fun hg41 => ?_) | refine TD.split 41 rfl (fun hg41 => ?_) (fun hg41 => ?_)
          · try dsimp only at hg41
            refine TD.passG rfl rfl rfl rfl ?_
            refine TD.passG rfl rfl rfl rfl ?_
            refine TD.passG rfl rfl rfl rfl ?_
            refine TD.passG rfl rfl rfl rfl ?_
            refine TD.passG rfl rfl rfl rfl ?_
            refine TD.passG rfl rfl rfl rfl ?_
            refine TD.passG rfl rfl rfl rfl ?_
            refine TD.passG rfl rfl rfl rfl ?_
            refine TD.passG rfl rfl rfl rfl ?_
            refine TD.passG rfl rfl rfl rfl ?_
            refine TD.passG rfl rfl rfl rfl ?_
            refine TD.run1 (pure_pick_true rfl rfl) rfl ?_
            refine TD.cutEnd (by repeat (first | exact Same.refl _ _ | refine Same.put rfl ?_)) rfl ?_
            first | (simp_all; done) | grind
          · try dsimp only at hg41
            refine TD.runG rfl rfl (pure_move rfl) rfl ?_
            refine TD.runG rfl rfl (pure_move rfl) rfl ?_
            refine TD.runG rfl rfl (pure_indexAddr Ty.sl72 rfl rfl (by omega) hx (List.cons_ne_nil _ _)) rfl ?_
            first | refine TD.runG rfl rfl (pure_fieldAddr Ty.f115_3 rfl (.succ (.succ (.succ (.zero _)))) (List.cons_ne_nil _ _)) rfl ?_ | refine TD.runG rfl rfl (pure_fieldAddr_own Ty.f115_3 rfl) rfl ?_
            first | refine TD.runG rfl rfl (pure_load1 Ty.one9 rfl) rfl ?_ | refine TD.runG rfl rfl (pure_load1_own Ty.one9 rfl (by repeat (first | exact List.Mem.head _ | apply List.Mem.tail)) (by repeat (first | exact DropR.zero _ | apply DropR.succ))) rfl ?_
            refine TD.runG rfl rfl (pure_move rfl) rfl ?_
            refine TD.runG rfl rfl (pure_move rfl) rfl ?_
            refine TD.runG rfl rfl (pure_indexAddr Ty.sl72 rfl rfl (by omega) hx (List.cons_ne_nil _ _)) rfl ?_
            first | refine TD.runG rfl rfl (pure_fieldAddr Ty.f115_3 rfl (.succ (.succ (.succ (.zero _)))) (List.cons_ne_nil _ _)) rfl ?_ | refine TD.runG rfl rfl (pure_fieldAddr_own Ty.f115_3 rfl) rfl ?_
            first | refine TD.runG rfl rfl (pure_load1 Ty.one9 rfl) rfl ?_ | refine TD.runG rfl rfl (pure_load1_own Ty.one9 rfl (by repeat (first | exact List.Mem.head _ | apply List.Mem.tail)) (by repeat (first | exact DropR.zero _ | apply DropR.succ))) rfl ?_
            refine TD.runG rfl rfl (pure_neq_string rfl rfl) rfl ?_
            refine TD.run1 (pure_pick_false rfl rfl) rfl ?_
            refine TD.cutEnd (by repeat (first | exact Same.refl _ _ | refine Same.put rfl ?_)) rfl ?_
            first | (simp_all; done) | grind
      first | refine TC.condD rfl (fun hc53 => ?_) (fun hc53 => ?_) | refine TC.condN rfl (fun hc53 => ?_) (fun hc53 => ?_) | refine TC.cond rfl (fun hc53 => ?_) (fun hc53 => ?_)
      · try dsimp only at hc53
        all_goals exact absurd hc53 id
      · try dsimp only at hc53
        refine TC.skip ?_
        refine block_normal ?_
        refine then_normal ?_
        refine TC.region ?_
        refine TL.run1 (pure_move rfl) rfl ?_
        refine TL.run1 (pure_add rfl rfl (mkI64 (by omega) (by omega))) rfl ?_
        refine TL.run1 (pure_assign rfl) rfl ?_
        refine TL.nil ?_
        refine loop_next (i + 1) ⟨by repeat (first | exact Agree.nil | refine Agree.cons rfl ?_), by repeat (first | exact List.nil_sublist _ | exact List.Sublist.refl _ | apply List.Sublist.cons_cons | apply List.Sublist.cons)⟩ ⟨by omega, by omega⟩ (by omega)
    · try dsimp only at hc14
      refine TC.exit ?_
      refine then_exit ?_
      refine loop_exit ?_
      refine block_here ?_
      refine then_normal ?_
      refine TC.seq ?_
      refine TC.region ?_
      refine TL.run1 (pure_assign rfl) rfl ?_
      refine TL.nil' ?_
      refine TC.ret ?_
      exact ret_bool rfl rfl
set_option maxHeartbeats 1000000 in
set_option maxRecDepth 100000 in
theorem REqual_spec (rs : List RowD) (hT : TabT rs) : Fun Try.prog 31 [.sl 6 (encRs rs), .sl 6 (encRs rs)] (.v (.bool true)) := by
  refine Fun.enter (n := 94) (rs := [.tmp 4]) Try.func31 rfl Try.ntmps31 Try.results31 rfl (fun w F => ?_)
  have hk := encRs_len rs
  have hrl := hT.1
  refine TC.seq ?_
  refine TC.region ?_
  refine TL.run1 (pure_assign rfl) rfl ?_
  refine TL.nil' ?_
  refine TC.seq ?_
  refine TC.seq ?_
  refine TC.region ?_
  refine TL.run1 (pure_move rfl) rfl ?_
  first | refine TL.run1 (pure_len Ty.sl22 rfl) rfl ?_ | refine TL.run1 (pure_len_row Ty.sl22 rfl (by repeat (first | exact List.Mem.head _ | apply List.Mem.tail))) rfl ?_ | refine TL.run1 (pure_len_nil Ty.sl22 rfl) rfl ?_
  refine TL.run1 (pure_move rfl) rfl ?_
  first | refine TL.run1 (pure_len Ty.sl22 rfl) rfl ?_ | refine TL.run1 (pure_len_row Ty.sl22 rfl (by repeat (first | exact List.Mem.head _ | apply List.Mem.tail))) rfl ?_ | refine TL.run1 (pure_len_nil Ty.sl22 rfl) rfl ?_
  refine TL.run1 (pure_neq rfl rfl) rfl ?_
  refine TL.nil' ?_
  first | refine TC.condD rfl (fun hc13 => ?_) (fun hc13 => ?_) | refine TC.condN rfl (fun hc13 => ?_) (fun hc13 => ?_) | refine TC.cond rfl (fun hc13 => ?_) (fun hc13 => ?_)
  · try dsimp only at hc13
    exact absurd rfl hc13
  · try dsimp only at hc13
    refine TC.skip' ?_
    refine TC.seq ?_
    refine TC.seq ?_
    refine TC.region ?_
    refine TL.run1 (pure_assign rfl) rfl ?_
    refine TL.nil' ?_
    refine TC.block ?_
    refine TC.loopX (X := Int) (fun i => [(0, .sl 6 (encRs rs)), (1, .sl 6 (encRs rs)), (5, .v (.int .i64 i))]) (fun i => []) (fun i => (0 ≤ i) ∧ (i ≤ rs.length)) (fun i => (rs.length - i).toNat) (0) ⟨by skip; repeat (first | exact Agree.nil | refine Agree.cons rfl ?_), by skip; repeat (first | exact List.nil_sublist _ | exact List.Sublist.refl _ | apply List.Sublist.cons_cons | apply List.Sublist.cons)⟩ ?_ ?_
    · skip
      exact ⟨Int.le_refl _, by omega⟩
    intro i
    rintro ⟨h0, h1⟩
    show TC _ _ _ (Env.of [(0, .sl 6 (encRs rs)), (1, .sl 6 (encRs rs)), (5, .v (.int .i64 i))]) []
    refine TC.seq ?_
    refine TC.seq ?_
    refine TC.region ?_
    refine TL.run1 (pure_move rfl) rfl ?_
    refine TL.run1 (pure_move rfl) rfl ?_
    first | refine TL.run1 (pure_len Ty.sl22 rfl) rfl ?_ | refine TL.run1 (pure_len_row Ty.sl22 rfl (by repeat (first | exact List.Mem.head _ | apply List.Mem.tail))) rfl ?_ | refine TL.run1 (pure_len_nil Ty.sl22 rfl) rfl ?_
    refine TL.run1 (pure_lss rfl rfl) rfl ?_
    refine TL.nil' ?_
    first | refine TC.condD rfl (fun hc17 => ?_) (fun hc17 => ?_) | refine TC.condN rfl (fun hc17 => ?_) (fun hc17 => ?_) | refine TC.cond rfl (fun hc17 => ?_) (fun hc17 => ?_)
    · try dsimp only at hc17
      refine TC.skip' ?_
      refine TC.seq ?_
      refine TC.block ?_
      refine TC.seq ?_
      have hrow := encRs_get rs i h0 (by omega)
      obtain ⟨hT1, hT2, hT3⟩ := hT.2 (rAt rs i) (rAt_mem rs i h0 (by omega))
      have hck := encCs_len (rAt rs i).cells
      refine TC.drawCut [20, 21, 22, 23, 24, 25, 26, 27, 28, 29, 30, 31, 32, 33, 34, 35, 36, 37, 38, 39, 40, 41, 42, 43, 44, 45, 46] 46 (False) Ty.follows (by kernel_rfl) ?_ ?_
      · skip
        refine TD.run1 (pure_move rfl) rfl ?_
        refine TD.run1 (pure_move rfl) rfl ?_
        refine TD.run1 (pure_indexAddr Ty.sl22 rfl rfl (by omega) hrow (by simp [encR])) rfl ?_
        first | refine TD.run1 (pure_fieldAddr Ty.f36_0 rfl (.zero _) (List.cons_ne_nil _ _)) rfl ?_ | refine TD.run1 (pure_fieldAddr_own Ty.f36_0 rfl) rfl ?_
        first | refine TD.run1 (pure_load Ty.agg33 rfl (.succ (.succ (.succ (.succ (.succ (.zero _))))))) rfl ?_ | refine TD.run1 (pure_load_own Ty.agg33 rfl (by repeat (first | exact List.Mem.head _ | apply List.Mem.tail)) (by repeat (first | exact DropR.zero _ | apply DropR.succ)) (.succ (.succ (.succ (.succ (.succ (.zero _))))))) rfl ?_
        refine TD.run1 (pure_move rfl) rfl ?_
        refine TD.run1 (pure_move rfl) rfl ?_
        refine TD.run1 (pure_indexAddr Ty.sl22 rfl rfl (by omega) hrow (by simp [encR])) rfl ?_
        first | refine TD.run1 (pure_fieldAddr Ty.f36_0 rfl (.zero _) (List.cons_ne_nil _ _)) rfl ?_ | refine TD.run1 (pure_fieldAddr_own Ty.f36_0 rfl) rfl ?_
        first | refine TD.run1 (pure_load Ty.agg33 rfl (.succ (.succ (.succ (.succ (.succ (.zero _))))))) rfl ?_ | refine TD.run1 (pure_load_own Ty.agg33 rfl (by repeat (first | exact List.Mem.head _ | apply List.Mem.tail)) (by repeat (first | exact DropR.zero _ | apply DropR.succ)) (.succ (.succ (.succ (.succ (.succ (.zero _))))))) rfl ?_
        first | refine TD.run1 (pure_call (Rsame_spec [(rAt rs i).hp, (rAt rs i).hi, (rAt rs i).hm, (rAt rs i).hd, (rAt rs i).hl] hT1) (.cons rfl (.cons rfl .nil)) Try.call50) rfl ?_ | refine TD.run1 (pure_call (Rsame_spec [.sl 2 (encP (cAt (rAt rs i).cells k).props), (cAt (rAt rs i).cells k).ins, (cAt (rAt rs i).cells k).move, (cAt (rAt rs i).cells k).dels, (cAt (rAt rs i).cells k).layers] hC2) (.cons rfl (.cons rfl .nil)) Try.call50) rfl ?_
        refine TD.run1 (pure_not rfl) rfl ?_
        refine TD.run1 (pure_move rfl) rfl ?_
        first | refine TD.splitP 32 rfl (fun hg32 => ?_) (fun hg32 => ?_) | refine TD.split 32 rfl (fun hg32 => ?_) (fun hg32 => ?_)
        · try dsimp only at hg32
          refine TD.passG rfl rfl rfl rfl ?_
          refine TD.passG rfl rfl rfl rfl ?_
          refine TD.passG rfl rfl rfl rfl ?_
          refine TD.passG rfl rfl rfl rfl ?_
          refine TD.passG rfl rfl rfl rfl ?_
          refine TD.passG rfl rfl rfl rfl ?_
          refine TD.passG rfl rfl rfl rfl ?_
          refine TD.passG rfl rfl rfl rfl ?_
          refine TD.passG rfl rfl rfl rfl ?_
          refine TD.passG rfl rfl rfl rfl ?_
          refine TD.passG rfl rfl rfl rfl ?_
          refine TD.passG rfl rfl rfl rfl ?_
          refine TD.passG rfl rfl rfl rfl ?_
          refine TD.run1 (pure_pick_true rfl rfl) rfl ?_
          refine TD.cutEnd (by repeat (first | exact Same.refl _ _ | refine Same.put rfl ?_)) rfl ?_
          first | (simp_all; done) | grind
        · try dsimp only at hg32
          refine TD.runG rfl rfl (pure_move rfl) rfl ?_
          refine TD.runG rfl rfl (pure_move rfl) rfl ?_
          refine TD.runG rfl rfl (pure_indexAddr Ty.sl22 rfl rfl (by omega) hrow (by simp [encR])) rfl ?_
          first | refine TD.runG rfl rfl (pure_fieldAddr Ty.f36_1 rfl (.succ (.succ (.succ (.succ (.succ (.zero _)))))) (List.cons_ne_nil _ _)) rfl ?_ | refine TD.runG rfl rfl (pure_fieldAddr_own Ty.f36_1 rfl) rfl ?_
          first | refine TD.runG rfl rfl (pure_load1 Ty.one34 rfl) rfl ?_ | refine TD.runG rfl rfl (pure_load1_own Ty.one34 rfl (by repeat (first | exact List.Mem.head _ | apply List.Mem.tail)) (by repeat (first | exact DropR.zero _ | apply DropR.succ))) rfl ?_
          first | refine TD.runG rfl rfl (pure_len Ty.sl34 rfl) rfl ?_ | refine TD.runG rfl rfl (pure_len_row Ty.sl34 rfl (by repeat (first | exact List.Mem.head _ | apply List.Mem.tail))) rfl ?_ | refine TD.runG rfl rfl (pure_len_nil Ty.sl34 rfl) rfl ?_
          refine TD.runG rfl rfl (pure_move rfl) rfl ?_
          refine TD.runG rfl rfl (pure_move rfl) rfl ?_
          refine TD.runG rfl rfl (pure_indexAddr Ty.sl22 rfl rfl (by omega) hrow (by simp [encR])) rfl ?_
          first | refine TD.runG rfl rfl (pure_fieldAddr Ty.f36_1 rfl (.succ (.succ (.succ (.succ (.succ (.zero _)))))) (List.cons_ne_nil _ _)) rfl ?_ | refine TD.runG rfl rfl (pure_fieldAddr_own Ty.f36_1 rfl) rfl ?_
          first | refine TD.runG rfl rfl (pure_load1 Ty.one34 rfl) rfl ?_ | refine TD.runG rfl rfl (pure_load1_own Ty.one34 rfl (by repeat (first | exact List.Mem.head _ | apply List.Mem.tail)) (by repeat (first | exact DropR.zero _ | apply DropR.succ))) rfl ?_
          first | refine TD.runG rfl rfl (pure_len Ty.sl34 rfl) rfl ?_ | refine TD.runG rfl rfl (pure_len_row Ty.sl34 rfl (by repeat (first | exact List.Mem.head _ | apply List.Mem.tail))) rfl ?_ | refine TD.runG rfl rfl (pure_len_nil Ty.sl34 rfl) rfl ?_
          refine TD.runG rfl rfl (pure_neq rfl rfl) rfl ?_
          refine TD.run1 (pure_pick_false rfl rfl) rfl ?_
          refine TD.cutEnd (by repeat (first | exact Same.refl _ _ | refine Same.put rfl ?_)) rfl ?_
          first | (simp_all; done) | grind
      first | refine TC.condD rfl (fun hc46 => ?_) (fun hc46 => ?_) | refine TC.condN rfl (fun hc46 => ?_) (fun hc46 => ?_) | refine TC.cond rfl (fun hc46 => ?_) (fun hc46 => ?_)
      · try dsimp only at hc46
        all_goals exact absurd hc46 id
      · try dsimp only at hc46
        refine TC.skip' ?_
        refine TC.seq ?_
        refine TC.region ?_
        refine TL.run1 (pure_assign rfl) rfl ?_
        refine TL.nil' ?_
        refine TC.block ?_
        refine TC.loopX (X := Int) (fun k => [(0, .sl 6 (encRs rs)), (1, .sl 6 (encRs rs)), (5, .v (.int .i64 i)), (6, .v (.int .i64 k))]) (fun k => []) (fun k => (0 ≤ k) ∧ (k ≤ (rAt rs i).cells.length)) (fun k => ((rAt rs i).cells.length - k).toNat) (0) ⟨by skip; repeat (first | exact Agree.nil | refine Agree.cons rfl ?_), by skip; repeat (first | exact List.nil_sublist _ | exact List.Sublist.refl _ | apply List.Sublist.cons_cons | apply List.Sublist.cons)⟩ ?_ ?_
        · skip
          exact ⟨Int.le_refl _, by omega⟩
        intro k
        rintro ⟨k0, k1⟩
        show TC _ _ _ (Env.of [(0, .sl 6 (encRs rs)), (1, .sl 6 (encRs rs)), (5, .v (.int .i64 i)), (6, .v (.int .i64 k))]) []
        refine TC.seq ?_
        refine TC.seq ?_
        refine TC.region ?_
        refine TL.run1 (pure_move rfl) rfl ?_
        refine TL.run1 (pure_move rfl) rfl ?_
        refine TL.run1 (pure_move rfl) rfl ?_
        refine TL.run1 (pure_indexAddr Ty.sl22 rfl rfl (by omega) hrow (by simp [encR])) rfl ?_
        first | refine TL.run1 (pure_fieldAddr Ty.f36_1 rfl (.succ (.succ (.succ (.succ (.succ (.zero _)))))) (List.cons_ne_nil _ _)) rfl ?_ | refine TL.run1 (pure_fieldAddr_own Ty.f36_1 rfl) rfl ?_
        first | refine TL.run1 (pure_load1 Ty.one34 rfl) rfl ?_ | refine TL.run1 (pure_load1_own Ty.one34 rfl (by repeat (first | exact List.Mem.head _ | apply List.Mem.tail)) (by repeat (first | exact DropR.zero _ | apply DropR.succ))) rfl ?_
        first | refine TL.run1 (pure_len Ty.sl34 rfl) rfl ?_ | refine TL.run1 (pure_len_row Ty.sl34 rfl (by repeat (first | exact List.Mem.head _ | apply List.Mem.tail))) rfl ?_ | refine TL.run1 (pure_len_nil Ty.sl34 rfl) rfl ?_
        refine TL.run1 (pure_lss rfl rfl) rfl ?_
        refine TL.nil' ?_
        first | refine TC.condD rfl (fun hc54 => ?_) (fun hc54 => ?_) | refine TC.condN rfl (fun hc54 => ?_) (fun hc54 => ?_) | refine TC.cond rfl (fun hc54 => ?_) (fun hc54 => ?_)
        · try dsimp only at hc54
          refine TC.skip' ?_
          refine TC.seq ?_
          refine TC.block ?_
          refine TC.seq ?_
          have hcell := encCs_get (rAt rs i).cells k k0 (by omega)
          obtain ⟨⟨id, hid⟩, hC2, hC3⟩ := hT3 (cAt (rAt rs i).cells k) (cAt_mem (rAt rs i).cells k k0 (by omega))
          have hce : encC (cAt (rAt rs i).cells k) = [.v (.int .i64 id), .sl 2 (encP (cAt (rAt rs i).cells k).props), (cAt (rAt rs i).cells k).ins, (cAt (rAt rs i).cells k).move, (cAt (rAt rs i).cells k).dels, (cAt (rAt rs i).cells k).layers, .sl 11 (cAt (rAt rs i).cells k).flow] := by (unfold encC; rw [hid])
          rw [hce] at hcell
          refine TC.thenCut (fun env H => ∃ g7 g8, At env H [(0, .sl 6 (encRs rs)), (1, .sl 6 (encRs rs)), (5, .v (.int .i64 i)), (6, .v (.int .i64 k)), (7, .v (.pointer (some ⟨g7, 0, none⟩))), (8, .v (.pointer (some ⟨g8, 0, none⟩)))] [Blk.box g7 74 (.v (.int .i64 id) :: .sl 2 (encP (cAt (rAt rs i).cells k).props) :: (cAt (rAt rs i).cells k).ins :: (cAt (rAt rs i).cells k).move :: (cAt (rAt rs i).cells k).dels :: (cAt (rAt rs i).cells k).layers :: [.sl 11 (cAt (rAt rs i).cells k).flow]), Blk.box g8 74 (.v (.int .i64 id) :: .sl 2 (encP (cAt (rAt rs i).cells k).props) :: (cAt (rAt rs i).cells k).ins :: (cAt (rAt rs i).cells k).move :: (cAt (rAt rs i).cells k).dels :: (cAt (rAt rs i).cells k).layers :: [.sl 11 (cAt (rAt rs i).cells k).flow])]) ?_ ?_
          · refine TC.drawSp 19 [16, 17, 18] [] Ty.follows (by decide) (by kernel_rfl) (by kernel_rfl) (by kernel_rfl) ?_
            refine TD.run1 (pure_move rfl) rfl ?_
            refine TD.run1 (pure_move rfl) rfl ?_
            refine TD.run1 (pure_indexAddr Ty.sl22 rfl rfl (by omega) hrow (by simp [encR])) rfl ?_
            first | refine TD.run1 (pure_fieldAddr Ty.f36_1 rfl (.succ (.succ (.succ (.succ (.succ (.zero _)))))) (List.cons_ne_nil _ _)) rfl ?_ | refine TD.run1 (pure_fieldAddr_own Ty.f36_1 rfl) rfl ?_
            first | refine TD.run1 (pure_load1 Ty.one34 rfl) rfl ?_ | refine TD.run1 (pure_load1_own Ty.one34 rfl (by repeat (first | exact List.Mem.head _ | apply List.Mem.tail)) (by repeat (first | exact DropR.zero _ | apply DropR.succ))) rfl ?_
            refine TD.run1 (pure_move rfl) rfl ?_
            refine TD.run1 (pure_indexAddr Ty.sl34 rfl rfl (by omega) hcell (List.cons_ne_nil _ _)) rfl ?_
            first | refine TD.run1 (pure_load Ty.agg74 rfl (.succ (.succ (.succ (.succ (.succ (.succ (.succ (.zero _))))))))) rfl ?_ | refine TD.run1 (pure_load_own Ty.agg74 rfl (by repeat (first | exact List.Mem.head _ | apply List.Mem.tail)) (by repeat (first | exact DropR.zero _ | apply DropR.succ)) (.succ (.succ (.succ (.succ (.succ (.succ (.succ (.zero _))))))))) rfl ?_
            refine TD.run1 (pure_move rfl) rfl ?_
            refine TD.run1 (pure_move rfl) rfl ?_
            refine TD.run1 (pure_indexAddr Ty.sl22 rfl rfl (by omega) hrow (by simp [encR])) rfl ?_
            first | refine TD.run1 (pure_fieldAddr Ty.f36_1 rfl (.succ (.succ (.succ (.succ (.succ (.zero _)))))) (List.cons_ne_nil _ _)) rfl ?_ | refine TD.run1 (pure_fieldAddr_own Ty.f36_1 rfl) rfl ?_
            first | refine TD.run1 (pure_load1 Ty.one34 rfl) rfl ?_ | refine TD.run1 (pure_load1_own Ty.one34 rfl (by repeat (first | exact List.Mem.head _ | apply List.Mem.tail)) (by repeat (first | exact DropR.zero _ | apply DropR.succ))) rfl ?_
            refine TD.run1 (pure_move rfl) rfl ?_
            refine TD.run1 (pure_indexAddr Ty.sl34 rfl rfl (by omega) hcell (List.cons_ne_nil _ _)) rfl ?_
            first | refine TD.run1 (pure_load Ty.agg74 rfl (.succ (.succ (.succ (.succ (.succ (.succ (.succ (.zero _))))))))) rfl ?_ | refine TD.run1 (pure_load_own Ty.agg74 rfl (by repeat (first | exact List.Mem.head _ | apply List.Mem.tail)) (by repeat (first | exact DropR.zero _ | apply DropR.succ)) (.succ (.succ (.succ (.succ (.succ (.succ (.succ (.zero _))))))))) rfl ?_
            refine TD.mute (TD.mute (TD.mute (TD.nil ?_)))
            refine ⟨⟨_, SplitR.none _⟩, fun s hs hb => ?_⟩
            simp only [List.mem_cons, List.not_mem_nil, or_false] at hs
            rcases hs with rfl | rfl | rfl
            · refine ⟨_, rfl, rfl, fun E eF he hx => ?_⟩
              subst he
              refine TL.alloc Ty.zero74 rfl (fun g7 => TL.nil ⟨rfl, _, rfl, ?_⟩)
              refine ⟨⟨_, SplitR.none _⟩, fun s hs hb => ?_⟩
              rw [show ([16, 17, 18] : List Nat).erase 16 = [17, 18] from rfl] at *
              simp only [List.mem_cons, List.not_mem_nil, or_false] at hs
              rcases hs with rfl | rfl
              · refine ⟨_, rfl, rfl, fun E eF he hx => ?_⟩
                subst he
                refine TL.alloc Ty.zero74 rfl (fun g8 => TL.nil ⟨rfl, _, rfl, ?_⟩)
                refine ⟨⟨_, SplitR.none _⟩, fun s hs hb => ?_⟩
                rw [show ([17, 18] : List Nat).erase 17 = [18] from rfl] at *
                simp only [List.mem_cons, List.not_mem_nil, or_false] at hs
                subst hs
                refine ⟨_, rfl, rfl, fun E eF he hx => ?_⟩
                subst he
                refine TL.store ((hx (.tmp 7) (by simp [Op.operands])).trans rfl) ((hx (.tmp 64) (by simp [Op.operands])).trans rfl) (.agg _) Try.sizeOf74 rfl (by repeat (first | exact UpdR.here _ | apply UpdR.there)) (by repeat (first | exact PutR.nil _ | apply PutR.here | apply PutR.skip)) (TL.nil ⟨rfl, none, rfl, ?_⟩)
                refine ⟨⟨_, SplitR.none _⟩, fun e he => ?_⟩
                subst he
                refine TL.store rfl rfl (.agg _) Try.sizeOf74 rfl (by repeat (first | exact UpdR.here _ | apply UpdR.there)) (by repeat (first | exact PutR.nil _ | apply PutR.here | apply PutR.skip)) ?_
                refine TL.perm (H' := [Blk.box g7 74 (.v (.int .i64 id) :: .sl 2 (encP (cAt (rAt rs i).cells k).props) :: (cAt (rAt rs i).cells k).ins :: (cAt (rAt rs i).cells k).move :: (cAt (rAt rs i).cells k).dels :: (cAt (rAt rs i).cells k).layers :: [.sl 11 (cAt (rAt rs i).cells k).flow]), Blk.box g8 74 (.v (.int .i64 id) :: .sl 2 (encP (cAt (rAt rs i).cells k).props) :: (cAt (rAt rs i).cells k).ins :: (cAt (rAt rs i).cells k).move :: (cAt (rAt rs i).cells k).dels :: (cAt (rAt rs i).cells k).layers :: [.sl 11 (cAt (rAt rs i).cells k).flow])]) (List.Perm.swap _ _ _) ?_
                exact TL.nil ⟨rfl, g7, g8, ⟨by repeat (first | exact Agree.nil | refine Agree.cons rfl ?_), by repeat (first | exact List.nil_sublist _ | exact List.Sublist.refl _ | apply List.Sublist.cons_cons | apply List.Sublist.cons)⟩⟩
              · exact absurd (hb 17 (by simp)) (by decide +kernel)
            · refine ⟨_, rfl, rfl, fun E eF he hx => ?_⟩
              subst he
              refine TL.alloc Ty.zero74 rfl (fun g8 => TL.nil ⟨rfl, _, rfl, ?_⟩)
              refine ⟨⟨_, SplitR.none _⟩, fun s hs hb => ?_⟩
              rw [show ([16, 17, 18] : List Nat).erase 17 = [16, 18] from rfl] at *
              simp only [List.mem_cons, List.not_mem_nil, or_false] at hs
              rcases hs with rfl | rfl
              · refine ⟨_, rfl, rfl, fun E eF he hx => ?_⟩
                subst he
                refine TL.alloc Ty.zero74 rfl (fun g7 => TL.nil ⟨rfl, _, rfl, ?_⟩)
                refine ⟨⟨_, SplitR.none _⟩, fun s hs hb => ?_⟩
                rw [show ([16, 18] : List Nat).erase 16 = [18] from rfl] at *
                simp only [List.mem_cons, List.not_mem_nil, or_false] at hs
                subst hs
                refine ⟨_, rfl, rfl, fun E eF he hx => ?_⟩
                subst he
                refine TL.store ((hx (.tmp 7) (by simp [Op.operands])).trans rfl) ((hx (.tmp 64) (by simp [Op.operands])).trans rfl) (.agg _) Try.sizeOf74 rfl (by repeat (first | exact UpdR.here _ | apply UpdR.there)) (by repeat (first | exact PutR.nil _ | apply PutR.here | apply PutR.skip)) (TL.nil ⟨rfl, none, rfl, ?_⟩)
                refine ⟨⟨_, SplitR.none _⟩, fun e he => ?_⟩
                subst he
                refine TL.store rfl rfl (.agg _) Try.sizeOf74 rfl (by repeat (first | exact UpdR.here _ | apply UpdR.there)) (by repeat (first | exact PutR.nil _ | apply PutR.here | apply PutR.skip)) ?_
                exact TL.nil ⟨rfl, g7, g8, ⟨by repeat (first | exact Agree.nil | refine Agree.cons rfl ?_), by repeat (first | exact List.nil_sublist _ | exact List.Sublist.refl _ | apply List.Sublist.cons_cons | apply List.Sublist.cons)⟩⟩
              · exact absurd (hb 16 (by simp)) (by decide +kernel)
            · exact absurd (hb 16 (by simp)) (by decide +kernel)
          · rintro env' H' ⟨g7, g8, ha⟩
            refine TC.at ha ?_
            refine TC.freezeBox 7 (List.cons_ne_nil _ _) (.here _) rfl ?_
            refine TC.freezeBox 8 (List.cons_ne_nil _ _) (.here _) rfl ?_
            refine TC.regionCut [73, 74, 75, 76, 77, 78, 79, 80, 81, 82, 83, 84, 85, 86, 87, 88, 89, 90, 91, 92, 93] 93 (False) ?_ ?_
            · skip
              first | refine TL.run1 (pure_fieldAddr Ty.f74_0 rfl (.zero _) (List.cons_ne_nil _ _)) rfl ?_ | refine TL.run1 (pure_fieldAddr_own Ty.f74_0 rfl) rfl ?_
              first | refine TL.run1 (pure_load1 Ty.one3 rfl) rfl ?_ | refine TL.run1 (pure_load1_own Ty.one3 rfl (by repeat (first | exact List.Mem.head _ | apply List.Mem.tail)) (by repeat (first | exact DropR.zero _ | apply DropR.succ))) rfl ?_
              first | refine TL.run1 (pure_fieldAddr Ty.f74_0 rfl (.zero _) (List.cons_ne_nil _ _)) rfl ?_ | refine TL.run1 (pure_fieldAddr_own Ty.f74_0 rfl) rfl ?_
              first | refine TL.run1 (pure_load1 Ty.one3 rfl) rfl ?_ | refine TL.run1 (pure_load1_own Ty.one3 rfl (by repeat (first | exact List.Mem.head _ | apply List.Mem.tail)) (by repeat (first | exact DropR.zero _ | apply DropR.succ))) rfl ?_
              refine TL.run1 (pure_neq rfl rfl) rfl ?_
              refine TL.run1 (pure_move rfl) rfl ?_
              first | refine TL.splitP 78 rfl (fun hg78 => ?_) (fun hg78 => ?_) | refine TL.split 78 rfl (fun hg78 => ?_) (fun hg78 => ?_)
              · try dsimp only at hg78
                refine TL.passG rfl rfl rfl rfl ?_
                refine TL.passG rfl rfl rfl rfl ?_
                refine TL.passG rfl rfl rfl rfl ?_
                refine TL.passG rfl rfl rfl rfl ?_
                refine TL.passG rfl rfl rfl rfl ?_
                refine TL.passG rfl rfl rfl rfl ?_
                refine TL.run1 (pure_pick_true rfl rfl) rfl ?_
                refine TL.run1 (pure_move rfl) rfl ?_
                refine TL.passG rfl rfl rfl rfl ?_
                refine TL.passG rfl rfl rfl rfl ?_
                refine TL.passG rfl rfl rfl rfl ?_
                refine TL.passG rfl rfl rfl rfl ?_
                refine TL.passG rfl rfl rfl rfl ?_
                refine TL.passG rfl rfl rfl rfl ?_
                refine TL.run1 (pure_pick_true rfl rfl) rfl ?_
                refine TL.cutEnd (by repeat (first | exact Same.refl _ _ | refine Same.put rfl ?_)) rfl ?_
                first | (simp_all; done) | grind
              · try dsimp only at hg78
                first | refine TL.runG rfl rfl (pure_fieldAddr Ty.f74_1 rfl (.succ (.zero _)) (List.cons_ne_nil _ _)) rfl ?_ | refine TL.runG rfl rfl (pure_fieldAddr_own Ty.f74_1 rfl) rfl ?_
                first | refine TL.runG rfl rfl (pure_load Ty.agg33 rfl (.succ (.succ (.succ (.succ (.succ (.zero _))))))) rfl ?_ | refine TL.runG rfl rfl (pure_load_own Ty.agg33 rfl (by repeat (first | exact List.Mem.head _ | apply List.Mem.tail)) (by repeat (first | exact DropR.zero _ | apply DropR.succ)) (.succ (.succ (.succ (.succ (.succ (.zero _))))))) rfl ?_
                first | refine TL.runG rfl rfl (pure_fieldAddr Ty.f74_1 rfl (.succ (.zero _)) (List.cons_ne_nil _ _)) rfl ?_ | refine TL.runG rfl rfl (pure_fieldAddr_own Ty.f74_1 rfl) rfl ?_
                first | refine TL.runG rfl rfl (pure_load Ty.agg33 rfl (.succ (.succ (.succ (.succ (.succ (.zero _))))))) rfl ?_ | refine TL.runG rfl rfl (pure_load_own Ty.agg33 rfl (by repeat (first | exact List.Mem.head _ | apply List.Mem.tail)) (by repeat (first | exact DropR.zero _ | apply DropR.succ)) (.succ (.succ (.succ (.succ (.succ (.zero _))))))) rfl ?_
                first | refine TL.runG rfl rfl (pure_call (Rsame_spec [(rAt rs i).hp, (rAt rs i).hi, (rAt rs i).hm, (rAt rs i).hd, (rAt rs i).hl] hT1) (.cons rfl (.cons rfl .nil)) Try.call50) rfl ?_ | refine TL.runG rfl rfl (pure_call (Rsame_spec [.sl 2 (encP (cAt (rAt rs i).cells k).props), (cAt (rAt rs i).cells k).ins, (cAt (rAt rs i).cells k).move, (cAt (rAt rs i).cells k).dels, (cAt (rAt rs i).cells k).layers] hC2) (.cons rfl (.cons rfl .nil)) Try.call50) rfl ?_
                refine TL.runG rfl rfl (pure_not rfl) rfl ?_
                refine TL.run1 (pure_pick_false rfl rfl) rfl ?_
                refine TL.run1 (pure_move rfl) rfl ?_
                first | refine TL.splitP 86 rfl (fun hg86 => ?_) (fun hg86 => ?_) | refine TL.split 86 rfl (fun hg86 => ?_) (fun hg86 => ?_)
                · try dsimp only at hg86
                  refine TL.passG rfl rfl rfl rfl ?_
                  refine TL.passG rfl rfl rfl rfl ?_
                  refine TL.passG rfl rfl rfl rfl ?_
                  refine TL.passG rfl rfl rfl rfl ?_
                  refine TL.passG rfl rfl rfl rfl ?_
                  refine TL.passG rfl rfl rfl rfl ?_
                  refine TL.run1 (pure_pick_true rfl rfl) rfl ?_
                  refine TL.cutEnd (by repeat (first | exact Same.refl _ _ | refine Same.put rfl ?_)) rfl ?_
                  first | (simp_all; done) | grind
                · try dsimp only at hg86
                  first | refine TL.runG rfl rfl (pure_fieldAddr Ty.f74_2 rfl (.succ (.succ (.succ (.succ (.succ (.succ (.zero _))))))) (List.cons_ne_nil _ _)) rfl ?_ | refine TL.runG rfl rfl (pure_fieldAddr_own Ty.f74_2 rfl) rfl ?_
                  first | refine TL.runG rfl rfl (pure_load1 Ty.one72 rfl) rfl ?_ | refine TL.runG rfl rfl (pure_load1_own Ty.one72 rfl (by repeat (first | exact List.Mem.head _ | apply List.Mem.tail)) (by repeat (first | exact DropR.zero _ | apply DropR.succ))) rfl ?_
                  first | refine TL.runG rfl rfl (pure_fieldAddr Ty.f74_2 rfl (.succ (.succ (.succ (.succ (.succ (.succ (.zero _))))))) (List.cons_ne_nil _ _)) rfl ?_ | refine TL.runG rfl rfl (pure_fieldAddr_own Ty.f74_2 rfl) rfl ?_
                  first | refine TL.runG rfl rfl (pure_load1 Ty.one72 rfl) rfl ?_ | refine TL.runG rfl rfl (pure_load1_own Ty.one72 rfl (by repeat (first | exact List.Mem.head _ | apply List.Mem.tail)) (by repeat (first | exact DropR.zero _ | apply DropR.succ))) rfl ?_
                  refine TL.runG rfl rfl (pure_call (Rflow_spec (cAt (rAt rs i).cells k).flow hC3) (.cons rfl (.cons rfl .nil)) Try.call51) rfl ?_
                  refine TL.runG rfl rfl (pure_not rfl) rfl ?_
                  refine TL.run1 (pure_pick_false rfl rfl) rfl ?_
                  refine TL.cutEnd (by repeat (first | exact Same.refl _ _ | refine Same.put rfl ?_)) rfl ?_
                  first | (simp_all; done) | grind
            first | refine TC.condD rfl (fun hc93 => ?_) (fun hc93 => ?_) | refine TC.condN rfl (fun hc93 => ?_) (fun hc93 => ?_) | refine TC.cond rfl (fun hc93 => ?_) (fun hc93 => ?_)
            · try dsimp only at hc93
              all_goals exact absurd hc93 id
            · try dsimp only at hc93
              refine TC.skip ?_
              refine block_normal ?_
              refine then_normal ?_
              refine TC.region ?_
              refine TL.run1 (pure_move rfl) rfl ?_
              refine TL.run1 (pure_add rfl rfl (mkI64 (by omega) (by omega))) rfl ?_
              refine TL.run1 (pure_assign rfl) rfl ?_
              refine TL.nil ?_
              refine loop_next (k + 1) ⟨by repeat (first | exact Agree.nil | refine Agree.cons rfl ?_), by repeat (first | exact List.nil_sublist _ | exact List.Sublist.refl _ | apply List.Sublist.cons_cons | apply List.Sublist.cons)⟩ ⟨by omega, by omega⟩ (by omega)
        · try dsimp only at hc54
          refine TC.exit ?_
          refine then_exit ?_
          refine loop_exit ?_
          refine block_here ?_
          refine block_normal ?_
          refine then_normal ?_
          refine TC.region ?_
          refine TL.run1 (pure_move rfl) rfl ?_
          refine TL.run1 (pure_add rfl rfl (mkI64 (by omega) (by omega))) rfl ?_
          refine TL.run1 (pure_assign rfl) rfl ?_
          refine TL.nil ?_
          refine loop_next (i + 1) ⟨by repeat (first | exact Agree.nil | refine Agree.cons rfl ?_), by repeat (first | exact List.nil_sublist _ | exact List.Sublist.refl _ | apply List.Sublist.cons_cons | apply List.Sublist.cons)⟩ ⟨by omega, by omega⟩ (by omega)
    · try dsimp only at hc17
      refine TC.exit ?_
      refine then_exit ?_
      refine loop_exit ?_
      refine block_here ?_
      refine then_normal ?_
      refine TC.seq ?_
      refine TC.region ?_
      refine TL.run1 (pure_assign rfl) rfl ?_
      refine TL.nil' ?_
      refine TC.ret ?_
      exact ret_bool rfl rfl
end Go.Ob
