import Derived.Test.YtkmgogabbefonaaDoorE4
set_option linter.unusedVariables false
set_option linter.unusedSimpArgs false
namespace Go.Ob
open Go.Proofs

def wdE (f : Fo) (s : ByteArray) : Int := if chkV f [s] ≠ 0 then chkV f [s] else if (cluV s).length = 0 then 11 else if (cluV s).length > 1 then 1 else 0
def wdV (f : Fo) (s : ByteArray) : Int := if wdE f s = 0 then widP f s else 0
def keV (f : Fo) (a b : ByteArray) : Int := if chkV f [a, b] = 0 ∧ (cluV a).length = 1 ∧ (cluV b).length = 1 then krP f a b else 0
def spS : ByteArray := ⟨#[32]⟩
theorem spS_ok : okS spS = true := by decide +kernel
def glN (f : Fo) : Int := if FBad f then 0 else widP f spS
theorem glN_range (f : Fo) : 0 ≤ glN f ∧ glN f ≤ 32761 := by
  unfold glN
  split
  · omega
  · rename_i h; exact widP_range h spS
set_option maxRecDepth 100000 in
theorem Offsets_spec (f : Fo) (s : ByteArray) (hs : s.size ≤ 1000000) : Fun Tryd.prog 18 [.agg [.v (.int .i64 f.face), .v (.int .i64 f.size), .v (.int .i64 f.raise), .v (.bool f.bold)], .v (.string s)] (.tup [.sl 1 (encI (offV f s)), .v (.int .i64 (chkV f [s]))]) := by
  refine Fun.enterF (n := 25) (rs := [.tmp 4, .tmp 5]) Tryd.func18 rfl Tryd.ntmps18 Tryd.results18 rfl (fun w F => ?_)
  refine TC.seq ?_
  refine TC.region ?_
  refine TL.box rfl (.agg _) rfl (fun g2 => ?_)
  refine TL.run1 (pure_assign rfl) rfl ?_
  refine TL.run1 (pure_assign rfl) rfl ?_
  refine TL.nil' ?_
  refine TC.seq ?_
  refine TC.seq ?_
  refine TC.region ?_
  first | refine TL.run1 (pure_load Ty.agg23 rfl (.succ (.succ (.succ (.succ (.zero _)))))) rfl ?_ | refine TL.run1 (pure_load_own Ty.agg23 rfl (by repeat (first | exact List.Mem.head _ | apply List.Mem.tail)) (by repeat (first | exact DropR.zero _ | apply DropR.succ)) (.succ (.succ (.succ (.succ (.zero _)))))) rfl ?_
  refine TL.run1 (pure_move rfl) rfl ?_
  refine TL.run1 (pure_buildSlice (xs := [.tmp 10]) Ty.app29 (by decide) rfl rfl (.cons rfl (.one rfl) rfl .nil)) rfl ?_
  refine TL.run1 (pure_call (checked_spec f [s] (by simp) (by intro x hx; simp only [List.mem_singleton] at hx; rw [hx]; omega)) (.cons rfl (.cons rfl .nil)) Tryd.call32) rfl ?_
  refine TL.run1 (pure_assign rfl) rfl ?_
  refine TL.nil' ?_
  refine TC.seq ?_
  refine TC.region ?_
  refine TL.run1 (pure_move rfl) rfl ?_
  refine TL.run1 (pure_neq rfl rfl) rfl ?_
  refine TL.nil' ?_
  first | refine TC.condD rfl (fun hc14 => ?_) (fun hc14 => ?_) | refine TC.condN rfl (fun hc14 => ?_) (fun hc14 => ?_) | refine TC.cond rfl (fun hc14 => ?_) (fun hc14 => ?_)
  · try dsimp only at hc14
    refine TC.seq ?_
    refine TC.nilrow 3 1 ?_
    refine TC.region ?_
    refine TL.run1 (pure_move rfl) rfl ?_
    refine TL.run1 (pure_assign rfl) rfl ?_
    refine TL.run1 (pure_assign rfl) rfl ?_
    refine TL.nil' ?_
    refine TC.ret ?_
    refine then_ret ?_
    unfold offV; rw [if_neg hc14]
    exact retF2 (.inl rfl) rfl rfl (.tupL (.cons (.rowS (v := .slice none 0 0) (e := 3) (xs := []) (by repeat (first | exact List.Mem.head _ | apply List.Mem.tail)) (by decide) (by simp)) (.cons (.same _) .nil)))
  · try dsimp only at hc14
    have hch : chkV f [s] = 0 := Decidable.not_not.1 hc14
    obtain ⟨hf, hall⟩ := chkV_zero hch
    have hok := hall s (List.mem_singleton.2 rfl)
    have hcz := cluV_len s
    refine TC.skip' ?_
    refine TC.seq ?_
    refine TC.nilrow 3 1 ?_
    refine TC.region ?_
    refine TL.alloc Ty.zero35 rfl (fun g7 => ?_)
    refine TL.nil' ?_
    refine TC.seq ?_
    refine TC.seq ?_
    refine TC.region ?_
    first | refine TL.run1 (pure_load Ty.agg23 rfl (.succ (.succ (.succ (.succ (.zero _)))))) rfl ?_ | refine TL.run1 (pure_load_own Ty.agg23 rfl (by repeat (first | exact List.Mem.head _ | apply List.Mem.tail)) (by repeat (first | exact DropR.zero _ | apply DropR.succ)) (.succ (.succ (.succ (.succ (.zero _)))))) rfl ?_
    refine TL.run1 (pure_move rfl) rfl ?_
    refine TL.run1 (pure_call (widths_spec f s) (.cons rfl (.cons rfl .nil)) Tryd.call40) rfl ?_
    refine TL.nil' ?_
    refine TC.block ?_
    refine TC.rangeFunc (caps := [.at_ [.v (.string s)], .at_ [.v (.int .i64 f.face), .v (.int .i64 f.size), .v (.int .i64 f.raise), .v (.bool f.bold)]]) (xs := (encI (offP f (cluV s)))) rfl rfl Tryd.call58 (wid_seq f s hf hok (by omega)) (fun k H => ∃ v, List.Sublist [Blk.box g7 35 [.v v], .row v 3 1 (encI ((offP f (cluV s)).take k))] H) (fun _ _ => False) ⟨.slice none 0 0, by repeat (first | exact List.nil_sublist _ | exact List.Sublist.refl _ | apply List.Sublist.cons_cons | apply List.Sublist.cons)⟩ ?_ (by rfl) ?_ ?_ ?_ ?_
    · skip
      intro x hx
      obtain ⟨k, hk⟩ := List.getElem?_of_mem hx
      obtain ⟨_, rfl⟩ := offP_mem f _ hk
      rfl
    · skip
      rintro k x Hc w F S l hx ⟨v, hsub⟩
      refine TC.forget (fun _ _ h => h) hsub ?_
      obtain ⟨hk, rfl⟩ := offP_mem f _ hx
      have htl : ((offP f (cluV s)).take k).length ≤ k := by rw [List.length_take]; omega
      have htt := offP_take f _ k hk
      have hkm := encI_len ((offP f (cluV s)).take k)
      refine TC.region ?_
      refine TL.run1 (pure_assign rfl) rfl ?_
      refine TL.nil ?_
      refine ⟨rfl, fun w F S => ?_⟩
      refine TC.block ?_
      refine TC.region ?_
      first | refine TL.run1 (pure_load1 Ty.one35 rfl) rfl ?_ | refine TL.run1 (pure_load1_own Ty.one35 rfl (by repeat (first | exact List.Mem.head _ | apply List.Mem.tail)) (by repeat (first | exact DropR.zero _ | apply DropR.succ))) rfl ?_
      refine TL.run1 (pure_move rfl) rfl ?_
      refine TL.run1 (pure_buildSlice (xs := [.tmp 21]) Ty.app35 (by decide) rfl rfl (.cons rfl (.one rfl) rfl .nil)) rfl ?_
      refine TL.append Ty.app35 rfl rfl (by intro _; repeat (first | exact UpdR.here _ | apply UpdR.there)) (by simp only [List.length_append, List.length_cons, List.length_nil]; omega) (by simp only [List.length_append, List.length_cons, List.length_nil]; omega) rfl (fun v23 hv23 => ?_)
      refine TL.store rfl rfl (.one (by first | rfl | assumption)) Tryd.sizeOf35 rfl (by repeat (first | exact UpdR.here _ | apply UpdR.there)) (by repeat (first | exact PutR.nil _ | apply PutR.here | apply PutR.skip)) ?_
      refine TL.nil ?_
      refine block_normal ?_
      exact ⟨_, by rw [htt, encI_snoc]; first | exact List.Sublist.refl _ | (repeat (first | exact List.Sublist.refl _ | apply List.Sublist.cons))⟩
    · skip
      rintro Hc ⟨v, hsub⟩
      refine block_normal ?_
      refine then_normal ?_
      refine TC.seq ?_
      refine TC.forget (fun _ _ h => h) hsub ?_
      refine TC.region ?_
      first | refine TL.run1 (pure_load1 Ty.one35 rfl) rfl ?_ | refine TL.run1 (pure_load1_own Ty.one35 rfl (by repeat (first | exact List.Mem.head _ | apply List.Mem.tail)) (by repeat (first | exact DropR.zero _ | apply DropR.succ))) rfl ?_
      refine TL.run1 (pure_assign rfl) rfl ?_
      refine TL.run1 (pure_assign rfl) rfl ?_
      refine TL.nil' ?_
      refine TC.ret ?_
      unfold offV; rw [hch, if_pos rfl]
      rw [take_all_of (offP f (cluV s)) _ (encI_len _)]
      exact retF2 (.inl rfl) rfl rfl (.tupL (.cons (.rowS (by repeat (first | exact List.Mem.head _ | apply List.Mem.tail)) (by decide) (encI_each _)) (.cons (.same _) .nil)))
    · skip
      first | exact fun _ h => h.elim | exact fun _ _ h => h.elim
    · skip
      first | exact fun _ h => h.elim | exact fun _ _ h => h.elim
set_option maxRecDepth 100000 in
theorem Text_spec (f : Fo) (s : ByteArray) (hs : s.size ≤ 1000000) : Fun Tryd.prog 19 [.agg [.v (.int .i64 f.face), .v (.int .i64 f.size), .v (.int .i64 f.raise), .v (.bool f.bold)], .v (.string s)] (.tup [.v (.int .i64 (txtV f s)), .v (.int .i64 (chkV f [s]))]) := by
  refine Fun.enter (n := 23) (rs := [.tmp 4, .tmp 5]) Tryd.func19 rfl Tryd.ntmps19 Tryd.results19 rfl (fun w F => ?_)
  refine TC.seq ?_
  refine TC.region ?_
  refine TL.box rfl (.agg _) rfl (fun g2 => ?_)
  refine TL.run1 (pure_assign rfl) rfl ?_
  refine TL.run1 (pure_assign rfl) rfl ?_
  refine TL.nil' ?_
  refine TC.seq ?_
  refine TC.region ?_
  first | refine TL.run1 (pure_load Ty.agg23 rfl (.succ (.succ (.succ (.succ (.zero _)))))) rfl ?_ | refine TL.run1 (pure_load_own Ty.agg23 rfl (by repeat (first | exact List.Mem.head _ | apply List.Mem.tail)) (by repeat (first | exact DropR.zero _ | apply DropR.succ)) (.succ (.succ (.succ (.succ (.zero _)))))) rfl ?_
  refine TL.run1 (pure_move rfl) rfl ?_
  refine TL.run1 (pure_call (Offsets_spec f s hs) (.cons rfl (.cons rfl .nil)) Tryd.call18) rfl ?_
  refine TL.run1 (pure_move rfl) rfl ?_
  refine TL.run1 (pure_extract rfl rfl) rfl ?_
  refine TL.run1 (pure_extract rfl rfl) rfl ?_
  refine TL.run1 (pure_assign rfl) rfl ?_
  refine TL.run1 (pure_assign rfl) rfl ?_
  refine TL.nil' ?_
  refine TC.seq ?_
  refine TC.seq ?_
  refine TC.region ?_
  refine TL.run1 (pure_move rfl) rfl ?_
  refine TL.run1 (pure_neq rfl rfl) rfl ?_
  refine TL.nil' ?_
  first | refine TC.condD rfl (fun hc15 => ?_) (fun hc15 => ?_) | refine TC.condN rfl (fun hc15 => ?_) (fun hc15 => ?_) | refine TC.cond rfl (fun hc15 => ?_) (fun hc15 => ?_)
  · try dsimp only at hc15
    refine TC.seq ?_
    refine TC.region ?_
    refine TL.run1 (pure_move rfl) rfl ?_
    refine TL.run1 (pure_assign rfl) rfl ?_
    refine TL.run1 (pure_assign rfl) rfl ?_
    refine TL.nil' ?_
    refine TC.ret ?_
    refine then_ret ?_
    exact ret2 (.inl rfl) rfl rfl (by unfold txtV; rw [if_neg hc15])
  · try dsimp only at hc15
    have hch : chkV f [s] = 0 := Decidable.not_not.1 hc15
    obtain ⟨hf, hall⟩ := chkV_zero hch
    have hok := hall s (List.mem_singleton.2 rfl)
    have hov : offV f s = offP f (cluV s) := by unfold offV; rw [if_pos hch]
    rw [hov]
    have hcz := cluV_len s
    have hkl := encI_len (offP f (cluV s))
    have hol := offP_len f (cluV s)
    have hrow : (encI (offP f (cluV s)))[(((encI (offP f (cluV s))).length : Int) - 1).toNat]? = some [.v (.int .i64 (wS f (cluV s) (cluV s).length))] := by (rw [hkl, hol, show ((((cluV s).length + 1 : Nat) : Int) - 1).toNat = (cluV s).length by omega]; exact offP_get f _ _ (Nat.le_refl _))
    refine TC.skip' ?_
    refine TC.seq ?_
    refine TC.region ?_
    refine TL.run1 (pure_move rfl) rfl ?_
    refine TL.run1 (pure_move rfl) rfl ?_
    first | refine TL.run1 (pure_len Ty.sl35 rfl) rfl ?_ | refine TL.run1 (pure_len_row Ty.sl35 rfl (by repeat (first | exact List.Mem.head _ | apply List.Mem.tail))) rfl ?_ | refine TL.run1 (pure_len_nil Ty.sl35 rfl) rfl ?_
    refine TL.run1 (pure_sub rfl rfl (mkI64 (by omega) (by omega))) rfl ?_
    refine TL.run1 (pure_indexAddr Ty.sl35 rfl rfl (by omega) hrow (List.cons_ne_nil _ _)) rfl ?_
    first | refine TL.run1 (pure_load1 Ty.one3 rfl) rfl ?_ | refine TL.run1 (pure_load1_own Ty.one3 rfl (by repeat (first | exact List.Mem.head _ | apply List.Mem.tail)) (by repeat (first | exact DropR.zero _ | apply DropR.succ))) rfl ?_
    refine TL.run1 (pure_assign rfl) rfl ?_
    refine TL.run1 (pure_assign rfl) rfl ?_
    refine TL.nil' ?_
    refine TC.ret ?_
    exact ret2 (.inl rfl) rfl rfl (by unfold txtV; rw [if_pos hch, hch])
set_option maxRecDepth 100000 in
theorem Width_spec (f : Fo) (s : ByteArray) (hs : s.size ≤ 1000000) : Fun Tryd.prog 14 [.agg [.v (.int .i64 f.face), .v (.int .i64 f.size), .v (.int .i64 f.raise), .v (.bool f.bold)], .v (.string s)] (.tup [.v (.int .i64 (wdV f s)), .v (.int .i64 (wdE f s))]) := by
  refine Fun.enter (n := 30) (rs := [.tmp 4, .tmp 5]) Tryd.func14 rfl Tryd.ntmps14 Tryd.results14 rfl (fun w F => ?_)
  refine TC.seq ?_
  refine TC.region ?_
  refine TL.box rfl (.agg _) rfl (fun g2 => ?_)
  refine TL.run1 (pure_assign rfl) rfl ?_
  refine TL.run1 (pure_assign rfl) rfl ?_
  refine TL.nil' ?_
  refine TC.seq ?_
  refine TC.seq ?_
  refine TC.region ?_
  first | refine TL.run1 (pure_load Ty.agg23 rfl (.succ (.succ (.succ (.succ (.zero _)))))) rfl ?_ | refine TL.run1 (pure_load_own Ty.agg23 rfl (by repeat (first | exact List.Mem.head _ | apply List.Mem.tail)) (by repeat (first | exact DropR.zero _ | apply DropR.succ)) (.succ (.succ (.succ (.succ (.zero _)))))) rfl ?_
  refine TL.run1 (pure_move rfl) rfl ?_
  refine TL.run1 (pure_buildSlice (xs := [.tmp 10]) Ty.app29 (by decide) rfl rfl (.cons rfl (.one rfl) rfl .nil)) rfl ?_
  refine TL.run1 (pure_call (checked_spec f [s] (by simp) (by intro x hx; simp only [List.mem_singleton] at hx; rw [hx]; omega)) (.cons rfl (.cons rfl .nil)) Tryd.call32) rfl ?_
  refine TL.run1 (pure_assign rfl) rfl ?_
  refine TL.nil' ?_
  refine TC.seq ?_
  refine TC.region ?_
  refine TL.run1 (pure_move rfl) rfl ?_
  refine TL.run1 (pure_neq rfl rfl) rfl ?_
  refine TL.nil' ?_
  first | refine TC.condD rfl (fun hc14 => ?_) (fun hc14 => ?_) | refine TC.condN rfl (fun hc14 => ?_) (fun hc14 => ?_) | refine TC.cond rfl (fun hc14 => ?_) (fun hc14 => ?_)
  · try dsimp only at hc14
    refine TC.seq ?_
    refine TC.region ?_
    refine TL.run1 (pure_move rfl) rfl ?_
    refine TL.run1 (pure_assign rfl) rfl ?_
    refine TL.run1 (pure_assign rfl) rfl ?_
    refine TL.nil' ?_
    refine TC.ret ?_
    refine then_ret ?_
    have he : wdE f s = chkV f [s] := by unfold wdE; rw [if_pos hc14]
    exact ret2 (.inl rfl) rfl rfl (by unfold wdV; rw [he, if_neg hc14])
  · try dsimp only at hc14
    have hch : chkV f [s] = 0 := Decidable.not_not.1 hc14
    obtain ⟨hf, hall⟩ := chkV_zero hch
    have hok := hall s (List.mem_singleton.2 rfl)
    refine TC.skip' ?_
    refine TC.seq ?_
    refine TC.seq ?_
    refine TC.region ?_
    refine TL.run1 (pure_move rfl) rfl ?_
    refine TL.run1 (pure_call (Count_spec s (by omega)) (.cons rfl .nil) Tryd.call33) rfl ?_
    refine TL.run1 (pure_move rfl) rfl ?_
    refine TL.run1 (pure_extract rfl rfl) rfl ?_
    refine TL.run1 (pure_extract rfl rfl) rfl ?_
    refine TL.run1 (pure_assign rfl) rfl ?_
    refine TL.run1 (pure_assign rfl) rfl ?_
    refine TL.nil' ?_
    refine TC.block ?_
    refine TC.seq ?_
    refine TC.region ?_
    refine TL.run1 (pure_move rfl) rfl ?_
    refine TL.run1 (pure_eql rfl rfl) rfl ?_
    refine TL.run1 (pure_assign rfl) rfl ?_
    refine TL.nil' ?_
    first | refine TC.condD rfl (fun hc21 => ?_) (fun hc21 => ?_) | refine TC.condN rfl (fun hc21 => ?_) (fun hc21 => ?_) | refine TC.cond rfl (fun hc21 => ?_) (fun hc21 => ?_)
    · try dsimp only at hc21
      have hn : (cluV s).length = 0 := by omega
      refine TC.seq ?_
      refine TC.region ?_
      refine TL.run1 (pure_assign rfl) rfl ?_
      refine TL.run1 (pure_assign rfl) rfl ?_
      refine TL.nil' ?_
      refine TC.ret ?_
      refine block_ret ?_
      refine then_ret ?_
      have he : wdE f s = 11 := by unfold wdE; rw [if_neg hc14, if_pos hn]
      exact ret2 (.inl rfl) rfl rfl (by unfold wdV; rw [he]; rfl)
    · try dsimp only at hc21
      refine TC.seq ?_
      refine TC.region ?_
      refine TL.run1 (pure_move rfl) rfl ?_
      refine TL.run1 (pure_gtr rfl rfl) rfl ?_
      refine TL.run1 (pure_assign rfl) rfl ?_
      refine TL.nil' ?_
      first | refine TC.condD rfl (fun hc24 => ?_) (fun hc24 => ?_) | refine TC.condN rfl (fun hc24 => ?_) (fun hc24 => ?_) | refine TC.cond rfl (fun hc24 => ?_) (fun hc24 => ?_)
      · try dsimp only at hc24
        have hn : (cluV s).length > 1 := by omega
        refine TC.seq ?_
        refine TC.region ?_
        refine TL.run1 (pure_assign rfl) rfl ?_
        refine TL.run1 (pure_assign rfl) rfl ?_
        refine TL.nil' ?_
        refine TC.ret ?_
        refine block_ret ?_
        refine then_ret ?_
        have he : wdE f s = 1 := by unfold wdE; rw [if_neg hc14, if_neg (by omega), if_pos hn]
        exact ret2 (.inl rfl) rfl rfl (by unfold wdV; rw [he]; rfl)
      · try dsimp only at hc24
        have hn : ¬ (cluV s).length > 1 := by omega
        refine TC.skip ?_
        refine block_normal ?_
        refine then_normal ?_
        refine TC.seq ?_
        refine TC.region ?_
        first | refine TL.run1 (pure_load Ty.agg23 rfl (.succ (.succ (.succ (.succ (.zero _)))))) rfl ?_ | refine TL.run1 (pure_load_own Ty.agg23 rfl (by repeat (first | exact List.Mem.head _ | apply List.Mem.tail)) (by repeat (first | exact DropR.zero _ | apply DropR.succ)) (.succ (.succ (.succ (.succ (.zero _)))))) rfl ?_
        refine TL.run1 (pure_move rfl) rfl ?_
        refine TL.run1 (pure_call (width_spec f s hf hok (by omega)) (.cons rfl (.cons rfl .nil)) Tryd.call34) rfl ?_
        refine TL.run1 (pure_assign rfl) rfl ?_
        refine TL.run1 (pure_assign rfl) rfl ?_
        refine TL.nil' ?_
        refine TC.ret ?_
        have he : wdE f s = 0 := by unfold wdE; rw [if_neg hc14, if_neg (by omega), if_neg hn]
        exact ret2 (.inl rfl) rfl rfl (by unfold wdV; rw [he, if_pos rfl])
set_option maxRecDepth 100000 in
theorem Kern_spec (f : Fo) (a b : ByteArray) (ha : a.size ≤ 1000000) (hb : b.size ≤ 1000000) : Fun Tryd.prog 22 [.agg [.v (.int .i64 f.face), .v (.int .i64 f.size), .v (.int .i64 f.raise), .v (.bool f.bold)], .v (.string a), .v (.string b)] (.tup [.v (.int .i64 (keV f a b)), .v (.int .i64 (chkV f [a, b]))]) := by
  refine Fun.enter (n := 41) (rs := [.tmp 6, .tmp 7]) Tryd.func22 rfl Tryd.ntmps22 Tryd.results22 rfl (fun w F => ?_)
  refine TC.seq ?_
  refine TC.region ?_
  refine TL.box rfl (.agg _) rfl (fun g3 => ?_)
  refine TL.run1 (pure_assign rfl) rfl ?_
  refine TL.run1 (pure_assign rfl) rfl ?_
  refine TL.nil' ?_
  refine TC.seq ?_
  refine TC.seq ?_
  refine TC.region ?_
  first | refine TL.run1 (pure_load Ty.agg23 rfl (.succ (.succ (.succ (.succ (.zero _)))))) rfl ?_ | refine TL.run1 (pure_load_own Ty.agg23 rfl (by repeat (first | exact List.Mem.head _ | apply List.Mem.tail)) (by repeat (first | exact DropR.zero _ | apply DropR.succ)) (.succ (.succ (.succ (.succ (.zero _)))))) rfl ?_
  refine TL.run1 (pure_move rfl) rfl ?_
  refine TL.run1 (pure_move rfl) rfl ?_
  refine TL.run1 (pure_buildSlice (xs := [.tmp 14, .tmp 15]) Ty.app29 (by decide) rfl rfl (.cons rfl (.one rfl) rfl (.cons rfl (.one rfl) rfl .nil))) rfl ?_
  refine TL.run1 (pure_call (checked_spec f [a, b] (by simp) (by intro x hx; simp only [List.mem_cons, List.mem_nil_iff, or_false] at hx; rcases hx with rfl | rfl <;> omega)) (.cons rfl (.cons rfl .nil)) Tryd.call32) rfl ?_
  refine TL.run1 (pure_assign rfl) rfl ?_
  refine TL.nil' ?_
  refine TC.seq ?_
  refine TC.region ?_
  refine TL.run1 (pure_move rfl) rfl ?_
  refine TL.run1 (pure_neq rfl rfl) rfl ?_
  refine TL.nil' ?_
  first | refine TC.condD rfl (fun hc19 => ?_) (fun hc19 => ?_) | refine TC.condN rfl (fun hc19 => ?_) (fun hc19 => ?_) | refine TC.cond rfl (fun hc19 => ?_) (fun hc19 => ?_)
  · try dsimp only at hc19
    refine TC.seq ?_
    refine TC.region ?_
    refine TL.run1 (pure_move rfl) rfl ?_
    refine TL.run1 (pure_assign rfl) rfl ?_
    refine TL.run1 (pure_assign rfl) rfl ?_
    refine TL.nil' ?_
    refine TC.ret ?_
    refine then_ret ?_
    exact ret2 (.inl rfl) rfl rfl (by unfold keV; rw [if_neg (fun h => hc19 h.1)])
  · try dsimp only at hc19
    have hch : chkV f [a, b] = 0 := Decidable.not_not.1 hc19
    obtain ⟨hf, hall⟩ := chkV_zero hch
    refine TC.skip' ?_
    refine TC.seq ?_
    refine TC.region ?_
    refine TL.run1 (pure_move rfl) rfl ?_
    first | refine TL.run1 (pure_call (Count_spec a (by omega)) (.cons rfl .nil) Tryd.call33) rfl ?_ | refine TL.run1 (pure_call (Count_spec b (by omega)) (.cons rfl .nil) Tryd.call33) rfl ?_
    refine TL.run1 (pure_move rfl) rfl ?_
    refine TL.run1 (pure_extract rfl rfl) rfl ?_
    refine TL.run1 (pure_extract rfl rfl) rfl ?_
    refine TL.run1 (pure_assign rfl) rfl ?_
    refine TL.run1 (pure_assign rfl) rfl ?_
    refine TL.nil' ?_
    refine TC.seq ?_
    refine TC.region ?_
    refine TL.run1 (pure_move rfl) rfl ?_
    first | refine TL.run1 (pure_call (Count_spec a (by omega)) (.cons rfl .nil) Tryd.call33) rfl ?_ | refine TL.run1 (pure_call (Count_spec b (by omega)) (.cons rfl .nil) Tryd.call33) rfl ?_
    refine TL.run1 (pure_move rfl) rfl ?_
    refine TL.run1 (pure_extract rfl rfl) rfl ?_
    refine TL.run1 (pure_extract rfl rfl) rfl ?_
    refine TL.run1 (pure_assign rfl) rfl ?_
    refine TL.run1 (pure_assign rfl) rfl ?_
    refine TL.nil' ?_
    refine TC.seq ?_
    refine TC.regionCut [31, 32, 33, 34, 35, 36] 36 ((cluV a).length ≠ 1 ∨ (cluV b).length ≠ 1) ?_ ?_
    · skip
      refine TL.run1 (pure_move rfl) rfl ?_
      refine TL.run1 (pure_neq rfl rfl) rfl ?_
      refine TL.run1 (pure_move rfl) rfl ?_
      first | refine TL.splitP 33 rfl (fun hg33 => ?_) (fun hg33 => ?_) | refine TL.split 33 rfl (fun hg33 => ?_) (fun hg33 => ?_)
      · try dsimp only at hg33
        refine TL.passG rfl rfl rfl rfl ?_
        refine TL.passG rfl rfl rfl rfl ?_
        refine TL.run1 (pure_pick_true rfl rfl) rfl ?_
        refine TL.cutEnd (by repeat (first | exact Same.refl _ _ | refine Same.put rfl ?_)) rfl ?_
        first | (simp only [decide_eq_true_eq, Bool.false_eq_true, false_iff, true_iff, iff_true, iff_false, Bool.not_eq_true]; omega) | (simp_all; done) | (simp_all; omega) | grind
      · try dsimp only at hg33
        refine TL.runG rfl rfl (pure_move rfl) rfl ?_
        refine TL.runG rfl rfl (pure_neq rfl rfl) rfl ?_
        refine TL.run1 (pure_pick_false rfl rfl) rfl ?_
        refine TL.cutEnd (by repeat (first | exact Same.refl _ _ | refine Same.put rfl ?_)) rfl ?_
        first | (simp only [decide_eq_true_eq, Bool.false_eq_true, false_iff, true_iff, iff_true, iff_false, Bool.not_eq_true]; omega) | (simp_all; done) | (simp_all; omega) | grind
    first | refine TC.condD rfl (fun hc36 => ?_) (fun hc36 => ?_) | refine TC.condN rfl (fun hc36 => ?_) (fun hc36 => ?_) | refine TC.cond rfl (fun hc36 => ?_) (fun hc36 => ?_)
    · try dsimp only at hc36
      refine TC.seq ?_
      refine TC.region ?_
      refine TL.run1 (pure_assign rfl) rfl ?_
      refine TL.run1 (pure_assign rfl) rfl ?_
      refine TL.nil' ?_
      refine TC.ret ?_
      refine then_ret ?_
      exact ret2 (.inl rfl) rfl rfl (by unfold keV; rw [hch, if_neg (fun h => by omega)])
    · try dsimp only at hc36
      refine TC.skip' ?_
      refine TC.seq ?_
      refine TC.region ?_
      first | refine TL.run1 (pure_load Ty.agg23 rfl (.succ (.succ (.succ (.succ (.zero _)))))) rfl ?_ | refine TL.run1 (pure_load_own Ty.agg23 rfl (by repeat (first | exact List.Mem.head _ | apply List.Mem.tail)) (by repeat (first | exact DropR.zero _ | apply DropR.succ)) (.succ (.succ (.succ (.succ (.zero _)))))) rfl ?_
      refine TL.run1 (pure_move rfl) rfl ?_
      refine TL.run1 (pure_move rfl) rfl ?_
      refine TL.run1 (pure_call (kern_spec f a b hf (by omega)) (.cons rfl (.cons rfl (.cons rfl .nil))) Tryd.call41) rfl ?_
      refine TL.run1 (pure_assign rfl) rfl ?_
      refine TL.run1 (pure_assign rfl) rfl ?_
      refine TL.nil' ?_
      refine TC.ret ?_
      exact ret2 (.inl rfl) rfl rfl (by unfold keV; rw [if_pos ⟨hch, by omega, by omega⟩, hch])
set_option maxRecDepth 100000 in
theorem Glue_spec (f : Fo) : Fun Tryd.prog 21 [.agg [.v (.int .i64 f.face), .v (.int .i64 f.size), .v (.int .i64 f.raise), .v (.bool f.bold)]] (.tup [.v (.int .i64 (glN f)), .v (.int .i64 (glN f / 2)), .v (.int .i64 (glN f / 3)), .v (.int .i64 (errF f))]) := by
  refine Fun.enter (n := 20) (rs := [.tmp 2, .tmp 3, .tmp 4, .tmp 5]) Tryd.func21 rfl Tryd.ntmps21 Tryd.results21 rfl (fun w F => ?_)
  refine TC.seq ?_
  refine TC.region ?_
  refine TL.box rfl (.agg _) rfl (fun g1 => ?_)
  refine TL.run1 (pure_assign rfl) rfl ?_
  refine TL.run1 (pure_assign rfl) rfl ?_
  refine TL.run1 (pure_assign rfl) rfl ?_
  refine TL.run1 (pure_assign rfl) rfl ?_
  refine TL.nil' ?_
  refine TC.seq ?_
  refine TC.seq ?_
  refine TC.region ?_
  first | refine TL.run1 (pure_load Ty.agg23 rfl (.succ (.succ (.succ (.succ (.zero _)))))) rfl ?_ | refine TL.run1 (pure_load_own Ty.agg23 rfl (by repeat (first | exact List.Mem.head _ | apply List.Mem.tail)) (by repeat (first | exact DropR.zero _ | apply DropR.succ)) (.succ (.succ (.succ (.succ (.zero _)))))) rfl ?_
  refine TL.run1 (pure_call (Check_spec f) (.cons rfl .nil) Tryd.call31) rfl ?_
  refine TL.run1 (pure_assign rfl) rfl ?_
  refine TL.nil' ?_
  refine TC.seq ?_
  refine TC.region ?_
  refine TL.run1 (pure_move rfl) rfl ?_
  refine TL.run1 (pure_neq rfl rfl) rfl ?_
  refine TL.nil' ?_
  first | refine TC.condD rfl (fun hc11 => ?_) (fun hc11 => ?_) | refine TC.condN rfl (fun hc11 => ?_) (fun hc11 => ?_) | refine TC.cond rfl (fun hc11 => ?_) (fun hc11 => ?_)
  · try dsimp only at hc11
    have hfb : FBad f := by (unfold errF at hc11; by_cases h : FBad f; exact h; rw [if_neg h] at hc11; exact absurd rfl hc11)
    refine TC.seq ?_
    refine TC.region ?_
    refine TL.run1 (pure_move rfl) rfl ?_
    refine TL.run1 (pure_assign rfl) rfl ?_
    refine TL.run1 (pure_assign rfl) rfl ?_
    refine TL.run1 (pure_assign rfl) rfl ?_
    refine TL.run1 (pure_assign rfl) rfl ?_
    refine TL.nil' ?_
    refine TC.ret ?_
    refine then_ret ?_
    exact ret4 (.inl rfl) rfl rfl rfl rfl (by unfold glN; rw [if_pos hfb]; rfl)
  · try dsimp only at hc11
    have hfb : ¬ FBad f := by (unfold errF at hc11; intro h; rw [if_pos h] at hc11; exact hc11 (by decide))
    refine TC.skip' ?_
    refine TC.seq ?_
    refine TC.region ?_
    first | refine TL.run1 (pure_load Ty.agg23 rfl (.succ (.succ (.succ (.succ (.zero _)))))) rfl ?_ | refine TL.run1 (pure_load_own Ty.agg23 rfl (by repeat (first | exact List.Mem.head _ | apply List.Mem.tail)) (by repeat (first | exact DropR.zero _ | apply DropR.succ)) (.succ (.succ (.succ (.succ (.zero _)))))) rfl ?_
    refine TL.run1 (pure_call (width_spec f spS hfb spS_ok (by decide)) (.cons rfl (.cons rfl .nil)) Tryd.call34) rfl ?_
    refine TL.run1 (pure_assign rfl) rfl ?_
    refine TL.nil' ?_
    refine TC.seq ?_
    have hwr := widP_range hfb spS
    refine TC.region ?_
    refine TL.run1 (pure_move rfl) rfl ?_
    refine TL.run1 (pure_move rfl) rfl ?_
    refine TL.run1 (pure_quo rfl rfl (by omega) (by omega) (by omega)) rfl ?_
    refine TL.run1 (pure_move rfl) rfl ?_
    refine TL.run1 (pure_quo rfl rfl (by omega) (by omega) (by omega)) rfl ?_
    refine TL.run1 (pure_assign rfl) rfl ?_
    refine TL.run1 (pure_assign rfl) rfl ?_
    refine TL.run1 (pure_assign rfl) rfl ?_
    refine TL.run1 (pure_assign rfl) rfl ?_
    refine TL.nil' ?_
    refine TC.ret ?_
    exact ret4 (.inl rfl) rfl rfl rfl rfl (by unfold glN errF; rw [if_neg hfb, if_neg hfb])
end Go.Ob
