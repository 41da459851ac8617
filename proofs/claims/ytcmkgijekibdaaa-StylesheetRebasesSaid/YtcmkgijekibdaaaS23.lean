import Derived.Test.YtcmkgijekibdaaaQ5
set_option linter.unusedVariables false
set_option linter.unusedSimpArgs false
namespace Go.Ob
open Go.Proofs

theorem encSs_each (l : List Sty) : ∀ x ∈ encSs l, x.length = 6 := by
  intro x hx
  obtain ⟨s, _, rfl⟩ := List.mem_map.1 hx
  rfl
theorem takeY_snoc (l : List Sty) (n : Nat) (h : n < l.length) : l.take (n + 1) = l.take n ++ [yAt l n] := by
  rw [List.take_add_one, List.getElem?_eq_getElem h]
  simp [yAt, h]
def rmF (l : List Sty) (id : Int) : List Sty := l.filter fun s => !decide (s.id = id)
theorem rmF_step (l : List Sty) (id : Int) (j : Nat) (h : j < l.length) : rmF (l.take (j + 1)) id = rmF (l.take j) id ++ (if decide ((yAt l j).id = id) = true then [] else [yAt l j]) := by
  rw [takeY_snoc l j h, rmF, rmF, List.filter_append]
  congr 1
  by_cases hp : (yAt l j).id = id <;> simp [hp]
theorem rmF_start (l : List Sty) (id : Int) (i : Nat) (h : i < l.length) (hi : (yAt l i).id = id) (hk : ∀ k : Nat, k < i → (yAt l k).id ≠ id) : rmF (l.take (i + 1)) id = l.take i := by
  rw [rmF_step l id i h, if_pos (by simpa using hi), List.append_nil]
  refine List.filter_eq_self.2 fun s hs => ?_
  obtain ⟨k, hk1, rfl⟩ := List.getElem_of_mem hs
  rw [List.length_take] at hk1
  have := hk k (by omega)
  simpa [yAt, show k < l.length by omega] using this
theorem rmF_none (l : List Sty) (id : Int) (h : ¬ 0 ≤ findS l id) : rmF l id = l := List.filter_eq_self.2 fun s hs => by
  obtain ⟨k, hk1, rfl⟩ := List.getElem_of_mem hs
  have := findS_no h k hk1
  simpa [yAt, hk1] using this
theorem encSs_app (a b : List Sty) : encSs (a ++ b) = encSs a ++ encSs b := by simp [encSs]
theorem encSs_rm_step (l : List Sty) (id : Int) (j : Nat) (h : j < l.length) : encSs (rmF (l.take (j + 1)) id) = encSs (rmF (l.take j) id) ++ (if decide ((yAt l j).id = id) = true then [] else [encSt (yAt l j)]) := by
  rw [rmF_step l id j h, encSs_app]
  split <;> rfl
theorem encSs_take (l : List Sty) (i : Nat) : encSs (l.take i) = (encSs l).take i := by simp [encSs]
theorem encSs_rm_start (l : List Sty) (id : Int) (i : Nat) (h : i < l.length) (hi : (yAt l i).id = id) (hk : ∀ k : Nat, k < i → (yAt l k).id ≠ id) : encSs (rmF (l.take (i + 1)) id) = (encSs l).take i := by
  rw [rmF_start l id i h hi hk, encSs_take]
theorem encSs_getN (l : List Sty) (i : Nat) (h : i < l.length) : (encSs l)[i]? = some (encSt (yAt l i)) := by simp [encSs, yAt, h]
theorem set_same {α : Type} {l : List α} {i : Nat} {x : α} (h : l[i]? = some x) : l.set i x = l := by
  apply List.ext_getElem?
  intro j
  rw [List.getElem?_set]
  by_cases hj : i = j
  · subst hj
    rw [if_pos rfl, h]
    split
    · rfl
    · rename_i hn; rw [List.getElem?_eq_none (by omega)] at h; cases h
  · rw [if_neg hj]
set_option maxRecDepth 100000 in
theorem cloneS_spec (l : List Sty) (hl : l.length ≤ 1000000) : CallD Try.prog 81 [.sl 6 (encSs l)] [] (fun r H' => ∃ v, r = .v v ∧ H' = [.row v 28 6 (encSs l)]) := by
  refine CallD.enter (n := 8) (rs := [.tmp 2]) Try.func81 rfl Try.ntmps81 Try.results81 rfl (fun w F => ?_)
  have hk := encSs_len l
  refine TC.seq ?_; refine TC.region ?_; refine TL.run1 (pure_assign rfl) rfl ?_; refine TL.nil' ?_; refine TC.seq ?_; refine TC.seq ?_; refine TC.region ?_; refine TL.run1 (pure_move rfl) rfl ?_
  refine TL.eqlNil Try.underlying22 rfl rfl rfl (fun b hb => ?_)
  refine TL.nil' ?_
  first | refine TC.condD rfl (fun hc4 => ?_) (fun hc4 => ?_) | refine TC.condN rfl (fun hc4 => ?_) (fun hc4 => ?_) | refine TC.cond rfl (fun hc4 => ?_) (fun hc4 => ?_)
  · try dsimp only at hc4
    refine TC.nilrow 28 6 ?_; refine TC.seq ?_; refine TC.region ?_; refine TL.run1 (pure_assign rfl) rfl ?_; refine TL.nil' ?_; refine TC.ret ?_; refine then_ret ?_
    exact retRow rfl (by repeat (first | exact List.Mem.head _ | apply List.Mem.tail)) (hb hc4).symm
  · try dsimp only at hc4
    refine TC.skip' ?_; refine TC.seq ?_; refine TC.region ?_
    refine TL.buildRow (xs := []) (ys := []) Ty.app22 (by decide) rfl rfl .nil rfl (fun v5 hv5 => ?_)
    refine TL.run1 (pure_move rfl) rfl ?_
    refine TL.append Ty.app22 rfl rfl (by intro _; repeat (first | exact UpdR.here _ | apply UpdR.there)) (by simp only [List.length_append, List.length_cons, List.length_nil]; omega) (by simp only [List.length_append, List.length_cons, List.length_nil]; omega) rfl (fun v7 hv7 => ?_)
    refine TL.run1 (pure_assign rfl) rfl ?_; refine TL.nil' ?_; refine TC.ret ?_
    exact retRow rfl (by repeat (first | exact List.Mem.head _ | apply List.Mem.tail)) rfl
set_option maxRecDepth 100000 in
theorem clone_spec (l : List Sty) (hl : l.length ≤ 1000000) (hp : ∀ i, i < l.length → (yAt l i).props.length ≤ 1000000) : CallD Try.prog 64 [.sl 6 (encSs l)] [] (fun r H' => ∃ v, r = .v v ∧ H' = [.row v 28 6 (encSs l)]) := by
  refine CallD.enter (n := 24) (rs := [.tmp 2]) Try.func64 rfl Try.ntmps64 Try.results64 rfl (fun w F => ?_)
  have hk := encSs_len l
  refine TC.seq ?_; refine TC.region ?_; refine TL.run1 (pure_assign rfl) rfl ?_; refine TL.nil' ?_; refine TC.seq ?_; refine TC.region ?_; refine TL.run1 (pure_move rfl) rfl ?_; refine TL.callD (SplitR.none _) (cloneS_spec l hl) (.cons rfl .nil) Try.call81 (fun t ht => by cases ht; exact of_decide_eq_true rfl) ?_
  rintro r2 H2 ⟨v, rfl, rfl⟩
  simp only [List.cons_append, List.nil_append]
  refine TL.run1 (pure_assign rfl) rfl ?_; refine TL.nil' ?_; refine TC.seq ?_; refine TC.seq ?_; refine TC.region ?_; refine TL.run1 (pure_move rfl) rfl ?_
  first | refine TL.run1 (pure_len Ty.sl22 rfl) rfl ?_ | refine TL.run1 (pure_len_row Ty.sl22 rfl (by repeat (first | exact List.Mem.head _ | apply List.Mem.tail))) rfl ?_ | refine TL.run1 (pure_len_nil Ty.sl22 rfl) rfl ?_
  refine TL.run1 (pure_move rfl) rfl ?_; refine TL.nil' ?_; refine TC.block ?_; refine TC.loopX (X := Nat) (fun i => [(3, .v v), (8, .v (.int .i64 (encSs l).length)), (9, .v (.int .i64 i))]) (fun i => [.row v 28 6 (encSs l)]) (fun i => (i ≤ l.length)) (fun i => l.length - i) (0) ⟨by skip; repeat (first | exact Agree.nil | refine Agree.cons rfl ?_), by skip; repeat (first | exact List.nil_sublist _ | exact List.Sublist.refl _ | apply List.Sublist.cons_cons | apply List.Sublist.cons)⟩ ?_ ?_
  · skip
    exact Nat.zero_le _
  intro i
  intro h1
  show TC _ _ _ (Env.of [(3, .v v), (8, .v (.int .i64 (encSs l).length)), (9, .v (.int .i64 i))]) [.row v 28 6 (encSs l)]
  refine TC.seq ?_; refine TC.region ?_; refine TL.run1 (pure_lss rfl rfl) rfl ?_; refine TL.nil' ?_; refine TC.seq ?_
  first | refine TC.condD rfl (fun hc10 => ?_) (fun hc10 => ?_) | refine TC.condN rfl (fun hc10 => ?_) (fun hc10 => ?_) | refine TC.cond rfl (fun hc10 => ?_) (fun hc10 => ?_)
  · try dsimp only at hc10
    refine TC.skip' ?_; refine TC.seq ?_; refine TC.block ?_; refine TC.seq ?_; refine TC.region ?_; refine TL.run1 (pure_move rfl) rfl ?_; refine TL.run1 (pure_assign rfl) rfl ?_; refine TL.nil' ?_
    have hil : i < l.length := by omega
    have hx := encSs_getN l i hil
    have hpl := hp i hil
    refine TC.region ?_; refine TL.run1 (pure_move rfl) rfl ?_; refine TL.run1 (pure_move rfl) rfl ?_; refine TL.run1 (pure_move rfl) rfl ?_; refine TL.run1 (pure_move rfl) rfl ?_
    refine TL.indexRow Ty.sl22 rfl rfl (by repeat (first | exact List.Mem.head _ | apply List.Mem.tail)) (by omega) (by omega) rfl (fun g16 hg16 => ?_)
    first | refine TL.run1 (pure_fieldAddr Ty.f28_5 rfl (.succ (.succ (.succ (.succ (.succ (.zero _)))))) (List.cons_ne_nil _ _)) rfl ?_ | refine TL.run1 (pure_fieldAddr_own Ty.f28_5 rfl) rfl ?_
    refine TL.run1 (pure_load1_row (es := 6) (i := i) (o := 5) Ty.one26 (by decide) rfl hg16 (by repeat (first | exact List.Mem.head _ | apply List.Mem.tail)) (by omega) hx (by repeat (first | exact DropR.zero _ | apply DropR.succ))) rfl ?_; refine TL.callD (SplitR.none _) (Clone_spec (yAt l i).props hpl) (.cons rfl .nil) Try.call75 (fun t ht => by cases ht; exact of_decide_eq_true rfl) ?_
    rintro r2 H2 ⟨v1, rfl, rfl⟩
    simp only [List.cons_append, List.nil_append]
    refine TL.freeze 19 (show (0 : Nat) < 2 by decide) (.here _) rfl ?_
    refine TL.indexRow Ty.sl22 rfl rfl (by repeat (first | exact List.Mem.head _ | apply List.Mem.tail)) (by omega) (by omega) rfl (fun g20 hg20 => ?_)
    first | refine TL.run1 (pure_fieldAddr Ty.f28_5 rfl (.succ (.succ (.succ (.succ (.succ (.zero _)))))) (List.cons_ne_nil _ _)) rfl ?_ | refine TL.run1 (pure_fieldAddr_own Ty.f28_5 rfl) rfl ?_
    refine TL.storeRow (es := 6) (i := i) (o := 5) (c' := encSt (yAt l i)) rfl hg20 (by omega) rfl (.one rfl) Try.sizeOf26 rfl (by repeat (first | exact UpdR.here _ | apply UpdR.there)) hx (by repeat (first | exact PutR.nil _ | apply PutR.here | apply PutR.skip)) ?_
    rw [set_same hx]
    refine TL.nil ?_; refine block_normal ?_; refine then_normal ?_; refine TC.region ?_; refine TL.run1 (pure_add rfl rfl (mkI64 (by omega) (by omega))) rfl ?_; refine TL.run1 (pure_move rfl) rfl ?_; refine TL.nil ?_
    refine loop_next (i + 1) ⟨by ((try dsimp only); rw [show (((i + 1 : Nat)) : Int) = (i : Int) + 1 by omega]; repeat (first | exact Agree.nil | refine Agree.cons rfl ?_)), by repeat (first | exact List.nil_sublist _ | exact List.Sublist.refl _ | apply List.Sublist.cons_cons | apply List.Sublist.cons)⟩ (show i + 1 ≤ _ by omega) (by omega)
  · try dsimp only at hc10
    refine TC.exit ?_; refine then_exit ?_; refine loop_exit ?_; refine block_here ?_; refine then_normal ?_; refine TC.seq ?_; refine TC.region ?_; refine TL.run1 (pure_move rfl) rfl ?_; refine TL.run1 (pure_assign rfl) rfl ?_; refine TL.nil' ?_; refine TC.ret ?_
    exact retRow rfl (by repeat (first | exact List.Mem.head _ | apply List.Mem.tail)) rfl
set_option maxRecDepth 100000 in
theorem Rem1_spec (s : Sty) (id : Int) : Fun Try.prog 65 [.agg [.v (.int .i64 s.id), .v (.int .i64 s.kind), .v (.string s.name), .v (.int .i64 s.base), .v (.int .i64 s.next), .sl 2 (encP s.props)], .at_ [.v (.int .i64 id)]] (.v (.bool (decide (s.id = id)))) := by
  refine Fun.enter (n := 8) (rs := [.tmp 3]) Try.func65 rfl Try.ntmps65 Try.results65 rfl (fun w F => ?_)
  refine TC.seq ?_; refine TC.region ?_
  refine TL.box rfl (.agg _) rfl (fun g2 => ?_)
  refine TL.run1 (pure_assign rfl) rfl ?_; refine TL.nil' ?_; refine TC.seq ?_; refine TC.region ?_
  first | refine TL.run1 (pure_fieldAddr Ty.f28_0 rfl (.zero _) (List.cons_ne_nil _ _)) rfl ?_ | refine TL.run1 (pure_fieldAddr_own Ty.f28_0 rfl) rfl ?_
  first | refine TL.run1 (pure_load1 Ty.one3 rfl) rfl ?_ | refine TL.run1 (pure_load1_own Ty.one3 rfl (by repeat (first | exact List.Mem.head _ | apply List.Mem.tail)) (by repeat (first | exact DropR.zero _ | apply DropR.succ))) rfl ?_
  first | refine TL.run1 (pure_load1 Ty.one3 rfl) rfl ?_ | refine TL.run1 (pure_load1_own Ty.one3 rfl (by repeat (first | exact List.Mem.head _ | apply List.Mem.tail)) (by repeat (first | exact DropR.zero _ | apply DropR.succ))) rfl ?_
  refine TL.run1 (pure_eql rfl rfl) rfl ?_; refine TL.run1 (pure_assign rfl) rfl ?_; refine TL.nil' ?_; refine TC.ret ?_
  exact ret_bool rfl rfl
set_option maxRecDepth 100000 in
theorem idxRem_spec (l : List Sty) (id : Int) (hl : l.length ≤ 1000000) : Fun Try.prog 53 [.sl 6 (encSs l), .fn 65 [.at_ [.v (.int .i64 id)]]] (.v (.int .i64 (findS l id))) := by
  refine Fun.enter (n := 19) (rs := [.tmp 4]) Try.func53 rfl Try.ntmps53 Try.results53 rfl (fun w F => ?_)
  have hk := encSs_len l
  refine TC.seq ?_; refine TC.region ?_; refine TL.run1 (pure_assign rfl) rfl ?_; refine TL.nil' ?_; refine TC.seq ?_; refine TC.seq ?_; refine TC.region ?_; refine TL.run1 (pure_move rfl) rfl ?_
  first | refine TL.run1 (pure_len Ty.sl22 rfl) rfl ?_ | refine TL.run1 (pure_len_row Ty.sl22 rfl (by repeat (first | exact List.Mem.head _ | apply List.Mem.tail))) rfl ?_ | refine TL.run1 (pure_len_nil Ty.sl22 rfl) rfl ?_
  refine TL.run1 (pure_move rfl) rfl ?_; refine TL.nil' ?_; refine TC.block ?_; refine TC.loopX (X := Nat) (fun i => [(0, .sl 6 (encSs l)), (1, .fn 65 [.at_ [.v (.int .i64 id)]]), (7, .v (.int .i64 (encSs l).length)), (8, .v (.int .i64 i))]) (fun i => []) (fun i => (i ≤ l.length) ∧ (findS l id = fiN (fun s => decide (s.id = id)) (l.drop i) i)) (fun i => l.length - i) (0) ⟨by skip; repeat (first | exact Agree.nil | refine Agree.cons rfl ?_), by skip; repeat (first | exact List.nil_sublist _ | exact List.Sublist.refl _ | apply List.Sublist.cons_cons | apply List.Sublist.cons)⟩ ?_ ?_
  · skip
    exact ⟨Nat.zero_le _, rfl⟩
  intro i
  rintro ⟨h1, h2⟩
  show TC _ _ _ (Env.of [(0, .sl 6 (encSs l)), (1, .fn 65 [.at_ [.v (.int .i64 id)]]), (7, .v (.int .i64 (encSs l).length)), (8, .v (.int .i64 i))]) []
  refine TC.seq ?_; refine TC.region ?_; refine TL.run1 (pure_lss rfl rfl) rfl ?_; refine TL.nil' ?_; refine TC.seq ?_
  first | refine TC.condD rfl (fun hc9 => ?_) (fun hc9 => ?_) | refine TC.condN rfl (fun hc9 => ?_) (fun hc9 => ?_) | refine TC.cond rfl (fun hc9 => ?_) (fun hc9 => ?_)
  · try dsimp only at hc9
    refine TC.skip' ?_; refine TC.seq ?_; refine TC.block ?_; refine TC.seq ?_; refine TC.region ?_; refine TL.run1 (pure_move rfl) rfl ?_; refine TL.run1 (pure_assign rfl) rfl ?_; refine TL.nil' ?_; refine TC.seq ?_
    have hrow := encSs_get l i (by omega)
    refine TC.region ?_; refine TL.run1 (pure_move rfl) rfl ?_; refine TL.run1 (pure_move rfl) rfl ?_; refine TL.run1 (pure_move rfl) rfl ?_; refine TL.run1 (pure_indexAddr Ty.sl22 rfl rfl (by omega) hrow (List.cons_ne_nil _ _)) rfl ?_
    first | refine TL.run1 (pure_load Ty.agg28 rfl (.succ (.succ (.succ (.succ (.succ (.succ (.zero _)))))))) rfl ?_ | refine TL.run1 (pure_load_own Ty.agg28 rfl (by repeat (first | exact List.Mem.head _ | apply List.Mem.tail)) (by repeat (first | exact DropR.zero _ | apply DropR.succ)) (.succ (.succ (.succ (.succ (.succ (.succ (.zero _)))))))) rfl ?_
    refine TL.run1 (pure_callv rfl (Rem1_spec (yAt l i) id) (.cons rfl .nil) Try.call65) rfl ?_; refine TL.nil' ?_
    first | refine TC.condD rfl (fun hc16 => ?_) (fun hc16 => ?_) | refine TC.condN rfl (fun hc16 => ?_) (fun hc16 => ?_) | refine TC.cond rfl (fun hc16 => ?_) (fun hc16 => ?_)
    · try dsimp only at hc16
      refine TC.seq ?_; refine TC.region ?_; refine TL.run1 (pure_move rfl) rfl ?_; refine TL.run1 (pure_assign rfl) rfl ?_; refine TL.nil' ?_; refine TC.ret ?_; refine block_ret ?_; refine then_ret ?_; refine loop_ret ?_; refine block_ret ?_; refine then_ret ?_
      exact ret_int rfl (by rw [h2, fiN_step _ _ _ (by omega), if_pos (by simpa using hc16)])
    · try dsimp only at hc16
      refine TC.skip ?_; refine block_normal ?_; refine then_normal ?_; refine TC.region ?_; refine TL.run1 (pure_add rfl rfl (mkI64 (by omega) (by omega))) rfl ?_; refine TL.run1 (pure_move rfl) rfl ?_; refine TL.nil ?_
      refine loop_next (i + 1) ⟨by ((try dsimp only); rw [show (((i + 1 : Nat)) : Int) = (i : Int) + 1 by omega]; repeat (first | exact Agree.nil | refine Agree.cons rfl ?_)), by repeat (first | exact List.nil_sublist _ | exact List.Sublist.refl _ | apply List.Sublist.cons_cons | apply List.Sublist.cons)⟩ ⟨by omega, by rw [h2, fiN_step _ _ _ (by omega), if_neg (by simpa using hc16)]⟩ (by omega)
  · try dsimp only at hc9
    refine TC.exit ?_; refine then_exit ?_; refine loop_exit ?_; refine block_here ?_; refine then_normal ?_; refine TC.seq ?_; refine TC.region ?_; refine TL.run1 (pure_assign rfl) rfl ?_; refine TL.nil' ?_; refine TC.ret ?_
    exact ret_int rfl (by rw [h2, fiN_end _ _ _ (by omega)])
set_option maxHeartbeats 1000000 in
set_option maxRecDepth 100000 in
theorem delS_spec (l : List Sty) (id : Int) (v : Value) (hl : l.length ≤ 1000000) : CallD Try.prog 63 [.v v, .fn 65 [.at_ [.v (.int .i64 id)]]] [.row v 28 6 (encSs l)] (fun r H' => ∃ v, r = .v v ∧ H' = [.row v 28 6 (encSs (rmF l id))]) := by
  refine CallD.enter (n := 42) (rs := [.tmp 4]) Try.func63 rfl Try.ntmps63 Try.results63 rfl (fun w F => ?_)
  have hk := encSs_len l
  refine TC.seq ?_; refine TC.region ?_; refine TL.run1 (pure_assign rfl) rfl ?_; refine TL.nil' ?_; refine TC.seq ?_; refine TC.region ?_; refine TL.run1 (pure_move rfl) rfl ?_; refine TL.run1 (pure_move rfl) rfl ?_; refine TL.run1 (pure_callF (.cons rfl (.cons rfl .nil)) (.cons (.rowS (by repeat (first | exact List.Mem.head _ | apply List.Mem.tail)) (show (0 : Nat) < 6 by decide) (encSs_each l)) (.cons (.same _) .nil)) (idxRem_spec l id hl) trivial Try.call53) rfl ?_; refine TL.run1 (pure_assign rfl) rfl ?_; refine TL.nil' ?_; refine TC.seq ?_; refine TC.seq ?_; refine TC.region ?_; refine TL.run1 (pure_move rfl) rfl ?_; refine TL.run1 (pure_eql rfl rfl) rfl ?_; refine TL.nil' ?_
  first | refine TC.condD rfl (fun hc12 => ?_) (fun hc12 => ?_) | refine TC.condN rfl (fun hc12 => ?_) (fun hc12 => ?_) | refine TC.cond rfl (fun hc12 => ?_) (fun hc12 => ?_)
  · try dsimp only at hc12
    refine TC.seq ?_; refine TC.region ?_; refine TL.run1 (pure_move rfl) rfl ?_; refine TL.run1 (pure_assign rfl) rfl ?_; refine TL.nil' ?_; refine TC.ret ?_; refine then_ret ?_
    exact retRow rfl (by repeat (first | exact List.Mem.head _ | apply List.Mem.tail)) (by rw [rmF_none _ _ (by omega)])
  · try dsimp only at hc12
    have hfr := findS_range l id
    obtain ⟨i, hil, hie, hip, hik⟩ := findS_pos (l := l) (id := id) (by omega)
    refine TC.rowShape (List.Mem.head _) (fun hsh => ?_)
    rcases hsh with ⟨_, hnil⟩ | ⟨g, cap, rfl, hcap⟩
    · exfalso; rw [hnil] at hk; simp at hk; omega
    rw [hie]
    refine TC.skip' ?_; refine TC.seq ?_; refine TC.seq ?_; refine TC.region ?_; refine TL.run1 (pure_move rfl) rfl ?_; refine TL.run1 (pure_add rfl rfl (mkI64 (by omega) (by omega))) rfl ?_; refine TL.run1 (pure_assign rfl) rfl ?_; refine TL.nil' ?_; refine TC.block ?_; refine TC.loopX (X := Nat × List (List D)) (fun (j, X) => [(0, .v (RowV g (encSs l).length cap)), (1, .fn 65 [.at_ [.v (.int .i64 id)]]), (5, .v (.int .i64 ((encSs (rmF (l.take j) id)).length : Nat))), (6, .v (.int .i64 j))]) (fun (j, X) => [.row (RowV g (encSs l).length cap) 28 6 X]) (fun (j, X) => (DelI 6 (encSs l) (encSs (rmF (l.take j) id)) X j)) (fun (j, X) => (encSs l).length - j) (i + 1, encSs l) ⟨by (try dsimp only); rw [encSs_rm_start l id i hil hip hik, List.length_take, Nat.min_eq_left (by omega), show (((i + 1 : Nat)) : Int) = (i : Int) + 1 by omega]; repeat (first | exact Agree.nil | refine Agree.cons rfl ?_), by skip; repeat (first | exact List.nil_sublist _ | exact List.Sublist.refl _ | apply List.Sublist.cons_cons | apply List.Sublist.cons)⟩ ?_ ?_
    · skip
      (try dsimp only)
      rw [encSs_rm_start l id i hil hip hik]
      exact DelI.start (encSs_each l) (by omega)
    rintro ⟨j, X⟩
    intro hd
    show TC _ _ _ (Env.of [(0, .v (RowV g (encSs l).length cap)), (1, .fn 65 [.at_ [.v (.int .i64 id)]]), (5, .v (.int .i64 ((encSs (rmF (l.take j) id)).length : Nat))), (6, .v (.int .i64 j))]) [.row (RowV g (encSs l).length cap) 28 6 X]
    refine TC.seq ?_; refine TC.seq ?_; refine TC.region ?_; refine TL.run1 (pure_move rfl) rfl ?_; refine TL.run1 (pure_move rfl) rfl ?_; refine TL.run1 (pure_lenV Ty.sl22 rfl) rfl ?_; refine TL.run1 (pure_lss rfl rfl) rfl ?_; refine TL.nil' ?_
    first | refine TC.condD rfl (fun hc19 => ?_) (fun hc19 => ?_) | refine TC.condN rfl (fun hc19 => ?_) (fun hc19 => ?_) | refine TC.cond rfl (fun hc19 => ?_) (fun hc19 => ?_)
    · try dsimp only at hc19
      refine TC.skip' ?_; refine TC.seq ?_; refine TC.block ?_; refine TC.seq ?_
      have hj : j < (encSs l).length := by omega
      have hxl := hd.len
      have hklt := hd.lt
      have hx : (encSs l)[j]? = some (encSt (yAt l j)) := encSs_getN l j (by omega)
      have hxj : X[((j : Nat) : Int).toNat]? = some (encSt (yAt l j)) := by (rw [Int.toNat_natCast, hd.get]; exact hx)
      obtain ⟨c0, hc0⟩ : ∃ c0, X[((((encSs (rmF (l.take j) id)).length : Nat) : Int)).toNat]? = some c0 := ⟨_, List.getElem?_eq_getElem (by rw [Int.toNat_natCast]; omega)⟩
      have hcl := hd.each _ (List.mem_of_getElem? hc0)
      refine TC.region ?_; refine TL.run1 (pure_move rfl) rfl ?_; refine TL.run1 (pure_move rfl) rfl ?_
      refine TL.indexRow Ty.sl22 rfl rfl (by repeat (first | exact List.Mem.head _ | apply List.Mem.tail)) (by omega) (by omega) rfl (fun g24 hg24 => ?_)
      refine TL.run1 (pure_load_row (es := 6) (i := ((j : Nat) : Int).toNat) (o := 0) Ty.agg28 (show (0 : Nat) < 6 by decide) rfl hg24 (by repeat (first | exact List.Mem.head _ | apply List.Mem.tail)) (by omega) hxj (by repeat (first | exact DropR.zero _ | apply DropR.succ)) (.succ (.succ (.succ (.succ (.succ (.succ (.zero _)))))))) rfl ?_
      refine TL.alloc Ty.zero28 rfl (fun g7 => ?_)
      refine TL.store rfl rfl (.agg _) Try.sizeOf28 rfl (by repeat (first | exact UpdR.here _ | apply UpdR.there)) (by repeat (first | exact PutR.nil _ | apply PutR.here | apply PutR.skip)) ?_; refine TL.nil' ?_; refine TC.seq ?_; refine TC.region ?_; refine TL.run1 (pure_move rfl) rfl ?_
      first | refine TL.run1 (pure_load Ty.agg28 rfl (.succ (.succ (.succ (.succ (.succ (.succ (.zero _)))))))) rfl ?_ | refine TL.run1 (pure_load_own Ty.agg28 rfl (by repeat (first | exact List.Mem.head _ | apply List.Mem.tail)) (by repeat (first | exact DropR.zero _ | apply DropR.succ)) (.succ (.succ (.succ (.succ (.succ (.succ (.zero _)))))))) rfl ?_
      refine TL.run1 (pure_callv rfl (Rem1_spec (yAt l j) id) (.cons rfl .nil) Try.call65) rfl ?_; refine TL.run1 (pure_not rfl) rfl ?_; refine TL.nil' ?_
      first | refine TC.condD rfl (fun hc29 => ?_) (fun hc29 => ?_) | refine TC.condN rfl (fun hc29 => ?_) (fun hc29 => ?_) | refine TC.cond rfl (fun hc29 => ?_) (fun hc29 => ?_)
      · try dsimp only at hc29
        have hdl : ¬ (decide ((yAt l j).id = id)) = true := by first | exact hc29 | simpa using hc29 | simpa [offG] using hc29
        refine TC.seq ?_; refine TC.region ?_; refine TL.run1 (pure_move rfl) rfl ?_; refine TL.run1 (pure_move rfl) rfl ?_
        first | refine TL.run1 (pure_load Ty.agg28 rfl (.succ (.succ (.succ (.succ (.succ (.succ (.zero _)))))))) rfl ?_ | refine TL.run1 (pure_load_own Ty.agg28 rfl (by repeat (first | exact List.Mem.head _ | apply List.Mem.tail)) (by repeat (first | exact DropR.zero _ | apply DropR.succ)) (.succ (.succ (.succ (.succ (.succ (.succ (.zero _)))))))) rfl ?_
        refine TL.indexRow Ty.sl22 rfl rfl (by repeat (first | exact List.Mem.head _ | apply List.Mem.tail)) (by omega) (by omega) rfl (fun g33 hg33 => ?_)
        refine TL.storeRow (es := 6) (i := ((((encSs (rmF (l.take j) id)).length : Nat) : Int)).toNat) (o := 0) (c' := (encSt (yAt l j))) rfl hg33 (by omega) rfl (.agg _) Try.sizeOf28 rfl (by repeat (first | exact UpdR.here _ | apply UpdR.there)) hc0 (putAll hcl) ?_
        rw [Int.toNat_natCast]
        refine TL.nil' ?_; refine TC.region ?_; refine TL.run1 (pure_move rfl) rfl ?_; refine TL.run1 (pure_add rfl rfl (mkI64 (by omega) (by omega))) rfl ?_; refine TL.run1 (pure_assign rfl) rfl ?_; refine TL.nil ?_; refine block_normal ?_; refine then_normal ?_; refine TC.region ?_; refine TL.run1 (pure_move rfl) rfl ?_; refine TL.run1 (pure_add rfl rfl (mkI64 (by omega) (by omega))) rfl ?_; refine TL.run1 (pure_assign rfl) rfl ?_; refine TL.nil ?_
        have hst := encSs_rm_step l id j (by omega)
        rw [if_neg hdl] at hst
        have hkp := hd.keep hx
        rw [← hst] at hkp
        refine loop_next (j + 1, X.set (encSs (rmF (l.take j) id)).length (encSt (yAt l j))) ⟨by ((try dsimp only); rw [hst, List.length_append, List.length_singleton, show ((((encSs (rmF (l.take j) id)).length + 1 : Nat)) : Int) = ((encSs (rmF (l.take j) id)).length : Int) + 1 by omega, show (((j + 1 : Nat)) : Int) = (j : Int) + 1 by omega]; repeat (first | exact Agree.nil | refine Agree.cons rfl ?_)), by repeat (first | exact List.nil_sublist _ | exact List.Sublist.refl _ | apply List.Sublist.cons_cons | apply List.Sublist.cons)⟩ hkp (by dsimp only; omega)
      · try dsimp only at hc29
        have hdl : (decide ((yAt l j).id = id)) = true := by first | exact hc29 | simpa using hc29 | simpa [offG] using hc29
        refine TC.skip ?_; refine block_normal ?_; refine then_normal ?_; refine TC.region ?_; refine TL.run1 (pure_move rfl) rfl ?_; refine TL.run1 (pure_add rfl rfl (mkI64 (by omega) (by omega))) rfl ?_; refine TL.run1 (pure_assign rfl) rfl ?_; refine TL.nil ?_
        have hst := encSs_rm_step l id j (by omega)
        rw [if_pos hdl, List.append_nil] at hst
        have hkp := hd.skip hj
        rw [← hst] at hkp
        refine loop_next (j + 1, X) ⟨by ((try dsimp only); rw [hst, show (((j + 1 : Nat)) : Int) = (j : Int) + 1 by omega]; repeat (first | exact Agree.nil | refine Agree.cons rfl ?_)), by repeat (first | exact List.nil_sublist _ | exact List.Sublist.refl _ | apply List.Sublist.cons_cons | apply List.Sublist.cons)⟩ hkp (by dsimp only; omega)
    · try dsimp only at hc19
      have hje : j = (encSs l).length := by (have := hd.le; omega)
      have hxl := hd.len
      have hklt := hd.lt
      refine TC.exit ?_; refine then_exit ?_; refine loop_exit ?_; refine block_here ?_; refine then_normal ?_; refine TC.seq ?_; refine TC.region ?_; refine TL.run1 (pure_move rfl) rfl ?_; refine TL.run1 (pure_move rfl) rfl ?_; refine TL.run1 (pure_sliceV (l := (encSs (rmF (l.take j) id)).length) (h := (encSs l).length) (m := cap) Ty.sl22 rfl rfl ⟨rfl, rfl⟩ rfl (by omega) (by omega) (by omega)) rfl ?_
      rw [if_neg (show ¬ cap = (encSs (rmF (l.take j) id)).length by omega)]
      refine TL.clearRow (g := g) (p := (encSs (rmF (l.take j) id)).length) (m := (encSs l).length - (encSs (rmF (l.take j) id)).length) (n := (encSs l).length) (n' := (encSs l).length) (cap := cap) Ty.app22 Ty.zero28 rfl rfl (by omega) (by omega) (by repeat (first | exact UpdR.here _ | apply UpdR.there)) (by simp only [List.length_append, List.length_take, List.length_drop, List.length_replicate]; omega) (by omega) (by omega) ?_; refine TL.nil' ?_; refine TC.seq ?_; refine TC.shrink (g := g) (k := (encSs (rmF (l.take j) id)).length) (by repeat (first | exact UpdR.here _ | apply UpdR.there)) (by simp only [List.length_append, List.length_take, List.length_drop, List.length_replicate]; omega) ?_; refine TC.region ?_; refine TL.run1 (pure_move rfl) rfl ?_; refine TL.run1 (pure_move rfl) rfl ?_; refine TL.run1 (pure_sliceV (l := 0) (h := (encSs (rmF (l.take j) id)).length) (m := cap) Ty.sl22 rfl rfl rfl rfl (by omega) (by omega) (by omega)) rfl ?_
      rw [ite_self]
      refine TL.run1 (pure_assign rfl) rfl ?_; refine TL.nil' ?_; refine TC.ret ?_
      exact retRow (e := 28) (es := 6) rfl (by repeat (first | exact List.Mem.head _ | apply List.Mem.tail)) (by rw [take_cut _ _ _ _ (by omega), hd.head]; rw [hje, hk, List.take_length])
end Go.Ob
