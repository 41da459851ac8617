import Derived.Test.YtlhjcleejolbiaaC2
import Derived.Test.YtlhjcleejolbiaaW7
set_option linter.unusedVariables false
set_option linter.unusedSimpArgs false
namespace Go.Ob
open Go.Proofs

theorem perm_rot {α : Type} (a b c : α) (L : List α) : (a :: b :: c :: L).Perm (c :: b :: (L ++ [a])) := by
  have h1 : (a :: b :: c :: L).Perm (c :: b :: a :: L) := ((List.Perm.swap b a (c :: L)).trans ((List.Perm.swap c a L).cons b)).trans (List.Perm.swap c b (a :: L))
  exact h1.trans (((List.perm_append_comm (l₁ := [a]) (l₂ := L)).cons b).cons c)
def idxS (l : List (Int × Int)) (s : Int × Int) : Int := firstIdx (fun k => decide (sAt l k = s)) l.length
def encRv (r : RowD) (v : Value) : List D := [r.hp, r.hi, r.hm, r.hd, r.hl, .v v]
def outX (rs : List RowD) (vs : List Value) : List (List D) := List.zipWith encRv rs vs
def inB (rs : List RowD) (vs : List Value) : Hp := List.zipWith (fun r v => Blk.row v 74 7 (encCs r.cells)) rs vs
theorem takeR_snoc (rs : List RowD) (i : Nat) (h : i < rs.length) : rs.take (i + 1) = rs.take i ++ [rAt rs (i : Nat)] := by
  rw [List.take_add_one, List.getElem?_eq_getElem h]
  simp [rAt, h]
theorem outX_snoc (rs : List RowD) (vs : List Value) (i : Nat) (h : i < rs.length) (hl : vs.length = i) (v : Value) : outX (rs.take (i + 1)) (vs ++ [v]) = outX (rs.take i) vs ++ [encRv (rAt rs (i : Nat)) v] := by
  rw [takeR_snoc rs i h, outX, List.zipWith_append (by rw [List.length_take]; omega)]; rfl
theorem inB_snoc (rs : List RowD) (vs : List Value) (i : Nat) (h : i < rs.length) (hl : vs.length = i) (v : Value) : inB (rs.take (i + 1)) (vs ++ [v]) = inB (rs.take i) vs ++ [Blk.row v 74 7 (encCs (rAt rs (i : Nat)).cells)] := by
  rw [takeR_snoc rs i h, inB, List.zipWith_append (by rw [List.length_take]; omega)]; rfl
theorem outX_len (rs : List RowD) (vs : List Value) : (outX rs vs).length = min rs.length vs.length := by simp [outX]
/-- a table, all of it as data -/
def TabB (I : List D → Prop) (rs : List RowD) : Prop := ∀ r ∈ rs, ∃ cs, HeadB [r.hp, r.hi, r.hm, r.hd, r.hl] ∧ encCs r.cells = cs ∧ SlB 7 120 cs ∧ ∀ x ∈ cs, CellB I x
set_option maxRecDepth 100000 in
theorem Index_spec (l : List (Int × Int)) (s : Int × Int) (hl : l.length ≤ 1000000) : Fun Try.prog 45 [.sl 2 (encS l), .agg [.v (.int .i64 s.1), .v (.int .i64 s.2)]] (.v (.int .i64 (idxS l s))) := by
  refine Fun.enter (n := 19) (rs := [.tmp 4]) Try.func45 rfl Try.ntmps45 Try.results45 rfl (fun w F => ?_)
  have hk := encS_len l
  refine TC.seq ?_
  refine TC.region ?_
  refine TL.box rfl (.agg _) rfl (fun g3 => ?_)
  refine TL.run1 (pure_assign rfl) rfl ?_
  refine TL.nil' ?_
  refine TC.seq ?_
  refine TC.seq ?_
  refine TC.freezeBox 3 (List.cons_ne_nil _ _) (.here _) rfl ?_
  refine TC.region ?_
  refine TL.run1 (pure_move rfl) rfl ?_
  first | refine TL.run1 (pure_len Ty.sl44 rfl) rfl ?_ | refine TL.run1 (pure_len_row Ty.sl44 rfl (by repeat (first | exact List.Mem.head _ | apply List.Mem.tail))) rfl ?_ | refine TL.run1 (pure_len_nil Ty.sl44 rfl) rfl ?_
  refine TL.run1 (pure_move rfl) rfl ?_
  refine TL.nil' ?_
  refine TC.block ?_
  refine TC.loopX (X := Int) (fun i => [(0, .sl 2 (encS l)), (3, .at_ [.v (.int .i64 s.1), .v (.int .i64 s.2)]), (7, .v (.int .i64 (encS l).length)), (8, .v (.int .i64 i))]) (fun i => []) (fun i => (0 ≤ i) ∧ (i ≤ l.length) ∧ (∀ j : Int, 0 ≤ j → j < i → decide (sAt l j = s) = false)) (fun i => (l.length - i).toNat) (0) ⟨by skip; repeat (first | exact Agree.nil | refine Agree.cons rfl ?_), by skip; repeat (first | exact List.nil_sublist _ | exact List.Sublist.refl _ | apply List.Sublist.cons_cons | apply List.Sublist.cons)⟩ ?_ ?_
  · skip
    exact ⟨by omega, by omega, fun j _ _ => by omega⟩
  intro i
  rintro ⟨h0, h1, h2⟩
  show TC _ _ _ (Env.of [(0, .sl 2 (encS l)), (3, .at_ [.v (.int .i64 s.1), .v (.int .i64 s.2)]), (7, .v (.int .i64 (encS l).length)), (8, .v (.int .i64 i))]) []
  refine TC.seq ?_
  refine TC.region ?_
  refine TL.run1 (pure_lss rfl rfl) rfl ?_
  refine TL.nil' ?_
  refine TC.seq ?_
  first | refine TC.condD rfl (fun hc9 => ?_) (fun hc9 => ?_) | refine TC.condN rfl (fun hc9 => ?_) (fun hc9 => ?_) | refine TC.cond rfl (fun hc9 => ?_) (fun hc9 => ?_)
  · try dsimp only at hc9
    refine TC.skip' ?_
    refine TC.seq ?_
    refine TC.block ?_
    refine TC.seq ?_
    refine TC.region ?_
    refine TL.run1 (pure_move rfl) rfl ?_
    refine TL.run1 (pure_assign rfl) rfl ?_
    refine TL.nil' ?_
    refine TC.seq ?_
    have hrow := encS_get l i h0 (by omega)
    have he : (sAt l i = s) ↔ [s.1, s.2] = [(sAt l i).1, (sAt l i).2] := by (rw [Prod.ext_iff]; simp; exact ⟨fun h => ⟨h.1.symm, h.2.symm⟩, fun h => ⟨h.1.symm, h.2.symm⟩⟩)
    refine TC.draw Ty.follows (by kernel_rfl) ?_
    first | refine TD.run1 (pure_load Ty.agg51 rfl (.succ (.succ (.zero _)))) rfl ?_ | refine TD.run1 (pure_load_own Ty.agg51 rfl (by repeat (first | exact List.Mem.head _ | apply List.Mem.tail)) (by repeat (first | exact DropR.zero _ | apply DropR.succ)) (.succ (.succ (.zero _)))) rfl ?_
    refine TD.run1 (pure_move rfl) rfl ?_
    refine TD.run1 (pure_move rfl) rfl ?_
    refine TD.run1 (pure_indexAddr Ty.sl44 rfl rfl (by omega) hrow (List.cons_ne_nil _ _)) rfl ?_
    first | refine TD.run1 (pure_load Ty.agg51 rfl (.succ (.succ (.zero _)))) rfl ?_ | refine TD.run1 (pure_load_own Ty.agg51 rfl (by repeat (first | exact List.Mem.head _ | apply List.Mem.tail)) (by repeat (first | exact DropR.zero _ | apply DropR.succ)) (.succ (.succ (.zero _)))) rfl ?_
    refine TD.run1 (pure_eql_agg Ty.eq51 rfl rfl (.cons (.cons .nil)) (.cons (.cons .nil)) rfl rfl) rfl ?_
    refine TD.nil' ?_
    first | refine TC.condD rfl (fun hc16 => ?_) (fun hc16 => ?_) | refine TC.condN rfl (fun hc16 => ?_) (fun hc16 => ?_) | refine TC.cond rfl (fun hc16 => ?_) (fun hc16 => ?_)
    · try dsimp only at hc16
      have hyes : sAt l i = s := by simp_all
      refine TC.seq ?_
      refine TC.region ?_
      refine TL.run1 (pure_move rfl) rfl ?_
      refine TL.run1 (pure_assign rfl) rfl ?_
      refine TL.nil' ?_
      refine TC.ret ?_
      refine block_ret ?_
      refine then_ret ?_
      refine loop_ret ?_
      refine block_ret ?_
      refine then_ret ?_
      exact ret_int rfl (firstIdx_at h0 (decide_eq_true hyes) (fun j a b => h2 j a b) (by omega)).symm
    · try dsimp only at hc16
      have hne : ¬ sAt l i = s := by simp_all
      refine TC.skip ?_
      refine block_normal ?_
      refine then_normal ?_
      refine TC.region ?_
      refine TL.run1 (pure_add rfl rfl (mkI64 (by omega) (by omega))) rfl ?_
      refine TL.run1 (pure_move rfl) rfl ?_
      refine TL.nil ?_
      refine loop_next (i + 1) ⟨by repeat (first | exact Agree.nil | refine Agree.cons rfl ?_), by repeat (first | exact List.nil_sublist _ | exact List.Sublist.refl _ | apply List.Sublist.cons_cons | apply List.Sublist.cons)⟩ ⟨by omega, by omega, fun j a b => ?_⟩ (by omega)
      rcases Int.lt_or_eq_of_le (show j ≤ i by omega) with h | h
      · exact h2 j a h
      · rw [h]; exact decide_eq_false hne
  · try dsimp only at hc9
    refine TC.exit ?_
    refine then_exit ?_
    refine loop_exit ?_
    refine block_here ?_
    refine then_normal ?_
    refine TC.seq ?_
    refine TC.region ?_
    refine TL.run1 (pure_assign rfl) rfl ?_
    refine TL.nil' ?_
    refine TC.ret ?_
    exact ret_int rfl (firstIdx_none (fun j a b => h2 j a (by omega))).symm
set_option maxRecDepth 100000 in
theorem put_spec (cs : List (List D)) (vv : Value) (g off k : Nat) (c : CellD) (key u : Int) (hg : vv.ownBlock = some g) (ho : off = k * 7) (hx : cs[k]? = some (encC c)) (hinc : Inc (keysP c.props)) (hl : c.props.length ≤ 1000000) : CallD Try.prog 46 [.v (.pointer (some ⟨g, off, none⟩)), .v (.int .i64 key), .v (.int .i64 u), .v (.int .i64 u)] [.row vv 74 7 cs] (fun _ H' => H' = [.row vv 74 7 (cs.set k (encC { c with props := clearP c.props key }))]) := by
  refine CallD.enter (n := 34) (rs := []) Try.func46 rfl Try.ntmps46 Try.results46 rfl (fun w F => ?_)
  refine TC.seq ?_
  refine TC.region ?_
  refine TL.run1 (pure_move rfl) rfl ?_
  refine TL.run1 (pure_move rfl) rfl ?_
  refine TL.run1 (pure_eql rfl rfl) rfl ?_
  refine TL.nil' ?_
  first | refine TC.condD rfl (fun hc10 => ?_) (fun hc10 => ?_) | refine TC.condN rfl (fun hc10 => ?_) (fun hc10 => ?_) | refine TC.cond rfl (fun hc10 => ?_) (fun hc10 => ?_)
  · try dsimp only at hc10
    refine TC.region ?_
    refine TL.run1 (pure_move rfl) rfl ?_
    refine TL.run1 (pure_move rfl) rfl ?_
    first | refine TL.run1 (pure_nilCheck rfl) rfl ?_ | refine TL.run1 (pure_nilCheck_own rfl) rfl ?_
    first | refine TL.run1 (pure_fieldAddr Ty.f74_1 rfl (.succ (.zero _)) (List.cons_ne_nil _ _)) rfl ?_ | refine TL.run1 (pure_fieldAddr_own Ty.f74_1 rfl) rfl ?_
    first | refine TL.run1 (pure_fieldAddr Ty.f33_0 rfl (.zero _) (List.cons_ne_nil _ _)) rfl ?_ | refine TL.run1 (pure_fieldAddr_own Ty.f33_0 rfl) rfl ?_
    refine TL.run1 (pure_load1_row (es := 7) (i := k) (o := 1) Ty.one27 (by decide) rfl hg (by repeat (first | exact List.Mem.head _ | apply List.Mem.tail)) (by omega) hx (by repeat (first | exact DropR.zero _ | apply DropR.succ))) rfl ?_
    refine TL.run1 (pure_move rfl) rfl ?_
    refine TL.run1 (pure_call (Clear_spec c.props key hinc hl) (.cons rfl (.cons rfl .nil)) Try.call57) rfl ?_
    first | refine TL.run1 (pure_nilCheck rfl) rfl ?_ | refine TL.run1 (pure_nilCheck_own rfl) rfl ?_
    first | refine TL.run1 (pure_fieldAddr Ty.f74_1 rfl (.succ (.zero _)) (List.cons_ne_nil _ _)) rfl ?_ | refine TL.run1 (pure_fieldAddr_own Ty.f74_1 rfl) rfl ?_
    first | refine TL.run1 (pure_fieldAddr Ty.f33_0 rfl (.zero _) (List.cons_ne_nil _ _)) rfl ?_ | refine TL.run1 (pure_fieldAddr_own Ty.f33_0 rfl) rfl ?_
    refine TL.storeRow (es := 7) (i := k) (o := 1) (c' := encC { c with props := clearP c.props key }) rfl hg (by omega) rfl (.one rfl) Try.sizeOf27 rfl (by repeat (first | exact UpdR.here _ | apply UpdR.there)) hx (by repeat (first | exact PutR.nil _ | apply PutR.here | apply PutR.skip)) ?_
    refine TL.nil ?_
    exact ⟨.inr rfl, [], .nil, _, List.Sublist.refl _, rfl⟩
  · try dsimp only at hc10
    exact absurd rfl hc10
set_option maxRecDepth 100000 in
theorem copied_spec (I : List D → Prop) (hI : ∀ x, I x → Fun Try.prog 86 [.agg x] (.agg x)) (rs : List RowD) (hB : TabB I rs) (hl : rs.length ≤ 2000) : CallD Try.prog 44 [.sl 6 (encRs rs)] [] (fun r H' => ∃ v vs, r = .v v ∧ vs.length = rs.length ∧ H' = .row v 36 6 (outX rs vs) :: inB rs vs) := by
  refine CallD.enter (n := 19) (rs := [.tmp 2]) Try.func44 rfl Try.ntmps44 Try.results44 rfl (fun w F => ?_)
  have hk := encRs_len rs
  refine TC.seq ?_
  refine TC.region ?_
  refine TL.run1 (pure_assign rfl) rfl ?_
  refine TL.nil' ?_
  refine TC.seq ?_
  refine TC.region ?_
  refine TL.run1 (pure_assign rfl) rfl ?_
  refine TL.nil' ?_
  refine TC.seq ?_
  refine TC.seq ?_
  refine TC.nilrow 36 6 ?_
  refine TC.region ?_
  refine TL.run1 (pure_move rfl) rfl ?_
  first | refine TL.run1 (pure_len Ty.sl22 rfl) rfl ?_ | refine TL.run1 (pure_len_row Ty.sl22 rfl (by repeat (first | exact List.Mem.head _ | apply List.Mem.tail))) rfl ?_ | refine TL.run1 (pure_len_nil Ty.sl22 rfl) rfl ?_
  refine TL.run1 (pure_move rfl) rfl ?_
  refine TL.nil' ?_
  refine TC.block ?_
  refine TC.loopX (X := Nat × Value × List Value) (fun (i, v, vs) => [(3, .v v), (6, .sl 6 (encRs rs)), (7, .v (.int .i64 (encRs rs).length)), (8, .v (.int .i64 i))]) (fun (i, v, vs) => (Blk.row v 36 6 (outX (rs.take i) vs) :: inB (rs.take i) vs)) (fun (i, v, vs) => (i ≤ rs.length) ∧ (vs.length = i)) (fun (i, v, vs) => rs.length - i) (0, .slice none 0 0, []) ⟨by skip; repeat (first | exact Agree.nil | refine Agree.cons rfl ?_), by skip; repeat (first | exact List.nil_sublist _ | exact List.Sublist.refl _ | apply List.Sublist.cons_cons | apply List.Sublist.cons)⟩ ?_ ?_
  · skip
    exact ⟨Nat.zero_le _, rfl⟩
  rintro ⟨i, v, vs⟩
  rintro ⟨h1, h2⟩
  show TC _ _ _ (Env.of [(3, .v v), (6, .sl 6 (encRs rs)), (7, .v (.int .i64 (encRs rs).length)), (8, .v (.int .i64 i))]) (Blk.row v 36 6 (outX (rs.take i) vs) :: inB (rs.take i) vs)
  refine TC.seq ?_
  refine TC.region ?_
  refine TL.run1 (pure_lss rfl rfl) rfl ?_
  refine TL.nil' ?_
  refine TC.seq ?_
  first | refine TC.condD rfl (fun hc9 => ?_) (fun hc9 => ?_) | refine TC.condN rfl (fun hc9 => ?_) (fun hc9 => ?_) | refine TC.cond rfl (fun hc9 => ?_) (fun hc9 => ?_)
  · try dsimp only at hc9
    refine TC.skip' ?_
    refine TC.seq ?_
    refine TC.block ?_
    refine TC.seq ?_
    have hil : i < rs.length := by omega
    have hrow := encRs_get rs (i : Int) (by omega) (by omega)
    obtain ⟨cs, q1, q2, q3, q4⟩ := hB (rAt rs (i : Nat)) (rAt_mem rs (i : Int) (by omega) (by omega))
    have hol := outX_len (rs.take i) vs
    have htl : (rs.take i).length = i := by (rw [List.length_take]; omega)
    refine TC.region ?_
    refine TL.run1 (pure_indexAddr Ty.sl22 rfl rfl (by omega) hrow (by simp [encR])) rfl ?_
    first | refine TL.run1 (pure_load Ty.agg36 rfl (.succ (.succ (.succ (.succ (.succ (.succ (.zero _)))))))) rfl ?_ | refine TL.run1 (pure_load_own Ty.agg36 rfl (by repeat (first | exact List.Mem.head _ | apply List.Mem.tail)) (by repeat (first | exact DropR.zero _ | apply DropR.succ)) (.succ (.succ (.succ (.succ (.succ (.succ (.zero _)))))))) rfl ?_
    refine TL.alloc Ty.zero36 rfl (fun g5 => ?_)
    refine TL.store rfl rfl (.agg _) Try.sizeOf36 rfl (by repeat (first | exact UpdR.here _ | apply UpdR.there)) (by repeat (first | exact PutR.nil _ | apply PutR.here | apply PutR.skip)) ?_
    refine TL.nil' ?_
    refine TC.region ?_
    refine TL.run1 (pure_move rfl) rfl ?_
    first | refine TL.run1 (pure_load Ty.agg36 rfl (.succ (.succ (.succ (.succ (.succ (.succ (.zero _)))))))) rfl ?_ | refine TL.run1 (pure_load_own Ty.agg36 rfl (by repeat (first | exact List.Mem.head _ | apply List.Mem.tail)) (by repeat (first | exact DropR.zero _ | apply DropR.succ)) (.succ (.succ (.succ (.succ (.succ (.succ (.zero _)))))))) rfl ?_
    refine TL.callD (SplitR.none _) (CloneRowD_spec I hI [(rAt rs (i : Nat)).hp, (rAt rs (i : Nat)).hi, (rAt rs (i : Nat)).hm, (rAt rs (i : Nat)).hd, (rAt rs (i : Nat)).hl] cs q1 q3 q4) (.cons (by rw [← q2]; rfl) .nil) Try.call56 (fun t ht => by cases ht; exact of_decide_eq_true rfl) ?_
    rintro r2 H2 ⟨v14, rfl, rfl⟩
    simp only [List.cons_append, List.nil_append]
    rw [← q2]
    refine TL.run1 (pure_buildSlice (xs := [.tmp 14]) Ty.app22 (by decide) rfl rfl (.cons rfl (.agg _) rfl .nil)) rfl ?_
    refine TL.append (ys := [encRv (rAt rs (i : Nat)) v14]) Ty.app22 rfl rfl (by intro _; repeat (first | exact UpdR.here _ | apply UpdR.there)) (by simp only [List.length_append, List.length_cons, List.length_nil]; omega) (by simp only [List.length_append, List.length_cons, List.length_nil]; omega) rfl (fun v15 hv15 => ?_)
    refine TL.perm (perm_rot _ _ _ _) ?_
    refine TL.run1 (pure_assign rfl) rfl ?_
    refine TL.nil ?_
    refine block_normal ?_
    refine then_normal ?_
    refine TC.region ?_
    refine TL.run1 (pure_add rfl rfl (mkI64 (by omega) (by omega))) rfl ?_
    refine TL.run1 (pure_move rfl) rfl ?_
    refine TL.nil ?_
    refine loop_next (i + 1, v15, vs ++ [v14]) ⟨by ((try dsimp only); rw [show (((i + 1 : Nat)) : Int) = (i : Int) + 1 by omega]; repeat (first | exact Agree.nil | refine Agree.cons rfl ?_)), by (try dsimp only); rw [outX_snoc rs vs i hil h2, inB_snoc rs vs i hil h2]; repeat (first | exact List.nil_sublist _ | exact List.Sublist.refl _ | apply List.Sublist.cons_cons | apply List.Sublist.cons)⟩ ⟨by omega, by rw [List.length_append, h2]; rfl⟩ (by (try dsimp only); omega)
  · try dsimp only at hc9
    refine TC.exit ?_
    refine then_exit ?_
    refine loop_exit ?_
    refine block_here ?_
    refine then_normal ?_
    refine TC.seq ?_
    refine TC.region ?_
    refine TL.run1 (pure_move rfl) rfl ?_
    refine TL.run1 (pure_assign rfl) rfl ?_
    refine TL.nil' ?_
    refine TC.ret ?_
    have hie : i = rs.length := by omega
    subst hie
    rw [List.take_length]
    exact ⟨.inl rfl, [.v v], .tmp rfl .nil, _, List.Sublist.refl _, v, vs, rfl, h2, rfl⟩
end Go.Ob
