import Derived.Test.YtlhjcleejolbiaaK7
set_option linter.unusedVariables false
set_option linter.unusedSimpArgs false
namespace Go.Ob
open Go.Proofs

theorem del_in {α : Type} (X : List α) (i n cap : Nat) (hn : n = X.length) (hi : i < n) (hc : n ≤ cap) (Z T : List α) (q : Nat) :
    (((X.take i ++ (X.drop (if cap = i + 1 then 0 else i + 1)).take (n - (i + 1)) ++ X.drop q).take (n - 1) ++ Z ++ T).take (n - 1)) = X.take i ++ X.drop (i + 1) := by
  have e1 : (X.drop (if cap = i + 1 then 0 else i + 1)).take (n - (i + 1)) = X.drop (i + 1) := by
    split
    · rw [show n - (i + 1) = 0 by omega, List.take_zero, List.drop_eq_nil_of_le (by omega)]
    · exact List.take_of_length_le (by rw [List.length_drop]; omega)
  have l1 : (X.take i ++ X.drop (i + 1)).length = n - 1 := by rw [List.length_append, List.length_take, List.length_drop]; omega
  rw [e1]
  have e2 : (X.take i ++ X.drop (i + 1) ++ X.drop q).take (n - 1) = X.take i ++ X.drop (i + 1) := by
    rw [List.take_append, l1, List.take_of_length_le (by omega), Nat.sub_self, List.take_zero, List.append_nil]
  rw [e2, List.append_assoc, List.take_append, l1, List.take_of_length_le (by omega), Nat.sub_self, List.take_zero, List.append_nil]
theorem encP_set (l : List (Int × Int)) (i : Nat) (k v : Int) : encP (l.set i (k, v)) = (encP l).set i [.v (.int .i64 k), .v (.int .i64 v)] := by simp [encP, List.map_set]
set_option maxRecDepth 100000 in
theorem delete_spec (l : List (Int × Int)) (g n cap i : Nat) (hn : n = l.length) (hcap : n ≤ cap) (hi : i < n) (hl : l.length ≤ 1000000) : CallD Try.prog 68 [.v (RowV g n cap), .v (.int .i64 (i : Int)), .v (.int .i64 ((i : Int) + 1))] [.row (RowV g n cap) 77 2 (encP l)] (fun r H' => ∃ v, r = .v v ∧ H' = [.row v 77 2 ((encP l).take i ++ (encP l).drop (i + 1))]) := by
  refine CallD.enter (n := 33) (rs := [.tmp 6]) Try.func68 rfl Try.ntmps68 Try.results68 rfl (fun w F => ?_)
  have hk := encP_len l
  refine TC.seq ?_; refine TC.region ?_; refine TL.run1 (pure_assign rfl) rfl ?_; refine TL.nil' ?_; refine TC.seq ?_; refine TC.region ?_; refine TL.run1 (pure_move rfl) rfl ?_; refine TL.run1 (pure_move rfl) rfl ?_; refine TL.run1 (pure_move rfl) rfl ?_; refine TL.run1 (pure_move rfl) rfl ?_; refine TL.run1 (pure_lenV Ty.sl27 rfl) rfl ?_; refine TL.run1 (pure_sliceV (l := i) (h := i + 1) (m := n) Ty.sl27 rfl rfl (castI (by omega)) rfl (by omega) (by omega) (by omega)) rfl ?_; refine TL.nil' ?_; refine TC.seq ?_; refine TC.seq ?_; refine TC.region ?_; refine TL.run1 (pure_move rfl) rfl ?_; refine TL.run1 (pure_move rfl) rfl ?_; refine TL.run1 (pure_eql rfl rfl) rfl ?_; refine TL.nil' ?_
  first | refine TC.condD rfl (fun hc16 => ?_) (fun hc16 => ?_) | refine TC.condN rfl (fun hc16 => ?_) (fun hc16 => ?_) | refine TC.cond rfl (fun hc16 => ?_) (fun hc16 => ?_)
  · try dsimp only at hc16
    exfalso; omega
  · try dsimp only at hc16
    refine TC.skip' ?_; refine TC.seq ?_; refine TC.region ?_; refine TL.run1 (pure_move rfl) rfl ?_; refine TL.run1 (pure_lenV Ty.sl27 rfl) rfl ?_; refine TL.run1 (pure_assign rfl) rfl ?_; refine TL.nil' ?_; refine TC.seq ?_; refine TC.drawTailN 6 Ty.follows (by kernel_rfl) (by kernel_rfl) ?_
    simp only [List.take_succ_cons, List.take_zero, List.drop_succ_cons, List.drop_zero]
    refine TD.run1 (pure_move rfl) rfl ?_; refine TD.run1 (pure_move rfl) rfl ?_; refine TD.run1 (pure_sliceV (l := 0) (h := i) (m := cap) Ty.sl27 rfl rfl rfl rfl (by omega) (by omega) (by omega)) rfl ?_
    rw [ite_self]
    refine TD.run1 (pure_move rfl) rfl ?_; refine TD.run1 (pure_move rfl) rfl ?_; refine TD.run1 (pure_sliceV (l := i + 1) (h := n) (m := cap) Ty.sl27 rfl (castI (by omega)) ⟨rfl, rfl⟩ rfl (by omega) (by omega) (by omega)) rfl ?_; refine TD.nil ?_
    show TL _ _ _ _ _ _
    refine TL.appendIn (g := g) (p := i) (m := n - (i + 1)) (n := n) (n' := n) (cap := cap) (xs := (encP l)) (src := (((encP l).drop (if cap = i + 1 then 0 else i + 1)).take (n - (i + 1)))) Ty.app27 rfl (.part (b := if cap = i + 1 then 0 else i + 1) (k := n - (i + 1)) (xs := (encP l)) (n := n) (cap := cap) rfl (by repeat (first | exact List.Mem.head _ | apply List.Mem.tail)) (by split <;> omega) (by split <;> omega) (by omega)) (by repeat (first | exact UpdR.here _ | apply UpdR.there)) (by simp only [List.length_append, List.length_take, List.length_drop, List.length_replicate]; split <;> omega) (by omega) (by omega) rfl ?_
    rw [show i + (n - (i + 1)) = n - 1 by omega]
    refine TL.run1 (pure_assign rfl) rfl ?_; refine TL.nil' ?_; refine TC.seq ?_; refine TC.region ?_; refine TL.run1 (pure_move rfl) rfl ?_; refine TL.run1 (pure_move rfl) rfl ?_; refine TL.run1 (pure_lenV Ty.sl27 rfl) rfl ?_; refine TL.run1 (pure_move rfl) rfl ?_; refine TL.run1 (pure_sliceV (l := n - 1) (h := n) (m := cap) Ty.sl27 rfl rfl rfl rfl (by omega) (by omega) (by omega)) rfl ?_
    rw [if_neg (show ¬ cap = n - 1 by omega)]
    refine TL.clearRow (g := g) (p := n - 1) (m := n - (n - 1)) (n := n) (n' := n) (cap := cap) Ty.app27 Ty.zero77 rfl rfl (by omega) (by omega) (by repeat (first | exact UpdR.here _ | apply UpdR.there)) (by simp only [List.length_append, List.length_take, List.length_drop, List.length_replicate]; split <;> omega) (by simp only [List.length_append, List.length_take, List.length_drop, List.length_replicate]; split <;> omega) (by omega) ?_; refine TL.nil' ?_; refine TC.seq ?_; refine TC.shrink (g := g) (k := n - 1) (by repeat (first | exact UpdR.here _ | apply UpdR.there)) (by simp only [List.length_append, List.length_take, List.length_drop, List.length_replicate]; split <;> omega) ?_; refine TC.region ?_; refine TL.run1 (pure_move rfl) rfl ?_; refine TL.run1 (pure_assign rfl) rfl ?_; refine TL.nil' ?_; refine TC.ret ?_
    exact retRow (e := 77) (es := 2) rfl (by repeat (first | exact List.Mem.head _ | apply List.Mem.tail)) (del_in (encP l) i n cap (by omega) hi hcap _ _ _)

theorem deleteAny_spec (l : List (Int × Int)) (v : Value) (i : Int) (h0 : 0 ≤ i) (hi : i < l.length) (hl : l.length ≤ 1000000) :
    CallD Try.prog 68 [.v v, .v (.int .i64 i), .v (.int .i64 (i + 1))] [.row v 77 2 (encP l)] (fun r H' => ∃ v, r = .v v ∧ H' = [.row v 77 2 ((encP l).take i.toNat ++ (encP l).drop (i.toNat + 1))]) := by
  intro w F vs hvl hv hh hF
  obtain ⟨i, rfl⟩ : ∃ n : Nat, i = n := ⟨i.toNat, by omega⟩
  rw [Int.toNat_natCast]
  obtain ⟨vals, hown, _⟩ := row_ok hh (List.mem_cons_self : Blk.row v 77 2 (encP l) ∈ _)
  have hk := encP_len l
  rcases hown.2 with ⟨_, hn⟩ | ⟨g, cap, cur, rfl, _, hg, hle, _⟩
  · omega
  · exact delete_spec l g _ cap i (by omega) hle (by omega) hl w F vs hvl hv hh hF
set_option maxRecDepth 100000 in
theorem SetB_spec (l : List (Int × Int)) (key : Int) (value : Int) (hinc : Inc (keysP l)) (hl : l.length ≤ 1000000) : Fun Try.prog 58 [.sl 2 (encP l), .v (.int .i64 key), .v (.int .i64 value)] (.sl 2 (encP (setB l key value))) := by
  refine Fun.enterF (n := 32) (rs := [.tmp 6]) Try.func58 rfl Try.ntmps58 Try.results58 rfl (fun w F => ?_)
  have hk := encP_len l
  refine TC.seq ?_; refine TC.region ?_; refine TL.run1 (pure_assign rfl) rfl ?_; refine TL.nil' ?_; refine TC.seq ?_; refine TC.region ?_; refine TL.run1 (pure_move rfl) rfl ?_; refine TL.run1 (pure_move rfl) rfl ?_; refine TL.run1 (pure_call (searchP_spec _ _ hinc hl) (.cons rfl (.cons rfl .nil)) Try.call66) rfl ?_; refine TL.run1 (pure_move rfl) rfl ?_; refine TL.run1 (pure_extract rfl rfl) rfl ?_; refine TL.run1 (pure_extract rfl rfl) rfl ?_; refine TL.run1 (pure_assign rfl) rfl ?_; refine TL.run1 (pure_assign rfl) rfl ?_; refine TL.nil' ?_; refine TC.seq ?_; refine TC.region ?_; refine TL.run1 (pure_move rfl) rfl ?_; refine TL.callD (H1 := []) (H2 := _) (SplitR.none _) (Clone_spec l hl) (.cons rfl .nil) Try.call67 (fun t ht => by cases ht; exact of_decide_eq_true rfl) ?_
  rintro r1 H1 ⟨v1, rfl, rfl⟩
  show TL _ _ _ _ _ [Blk.row v1 77 2 (encP l)]
  refine TL.run1 (pure_assign rfl) rfl ?_; refine TL.nil' ?_; refine TC.seq ?_; refine TC.seq ?_; refine TC.region ?_; refine TL.run1 (pure_move rfl) rfl ?_; refine TL.nil' ?_
  first | refine TC.condD rfl (fun hc18 => ?_) (fun hc18 => ?_) | refine TC.condN rfl (fun hc18 => ?_) (fun hc18 => ?_) | refine TC.cond rfl (fun hc18 => ?_) (fun hc18 => ?_)
  · try dsimp only at hc18
    have hin : inI (keysP l) key = true := decide_eq_true hc18
    obtain ⟨hlt, hkey⟩ := in_at hin
    refine TC.seq ?_; refine TC.region ?_; refine TL.run1 (pure_move rfl) rfl ?_; refine TL.run1 (pure_move rfl) rfl ?_; refine TL.run1 (pure_move rfl) rfl ?_
    refine TL.indexRow Ty.sl27 rfl rfl (by repeat (first | exact List.Mem.head _ | apply List.Mem.tail)) (by omega) (by omega) rfl (fun g22 hg22 => ?_)
    refine TL.run1 (pure_fieldAddr_own Ty.f77_1 rfl) rfl ?_
    have hrow := encP_get l (lbI (keysP l) key) (by omega) (by omega)
    refine TL.storeRow (es := 2) (i := ((lbI (keysP l) key) : Int).toNat) (o := 1) rfl hg22 (by omega) rfl (.one rfl) Try.sizeOf3 rfl (by repeat (first | exact UpdR.here _ | apply UpdR.there)) hrow (by repeat (first | exact PutR.nil _ | apply PutR.here | apply PutR.skip)) ?_; refine TL.nil' ?_; refine TC.seq ?_; refine TC.region ?_; refine TL.run1 (pure_move rfl) rfl ?_; refine TL.run1 (pure_assign rfl) rfl ?_; refine TL.nil' ?_; refine TC.ret ?_; refine then_ret ?_
    have hres : setB l key value = l.set (lbI (keysP l) key) (key, value) := by unfold setB; rw [if_pos hin]
    have hrow2 : (encP l).set ((lbI (keysP l) key) : Int).toNat [.v (.int .i64 (pAt l (lbI (keysP l) key)).1), .v (.int .i64 value)] = encP (setB l key value) := by rw [hres, encP_set, hkey, Int.toNat_natCast]
    exact retF_row (xs := (encP l).set ((lbI (keysP l) key) : Int).toNat [.v (.int .i64 (pAt l (lbI (keysP l) key)).1), .v (.int .i64 value)]) rfl (by repeat (first | exact List.Mem.head _ | apply List.Mem.tail)) (by decide) (by rw [hrow2]; exact encP_each _) (by rw [hrow2])
  · try dsimp only at hc18
    have hin : inI (keysP l) key = false := decide_eq_false hc18
    have hle := lbI_le (keysP l) key
    rw [keysP_len] at hle
    refine TC.skip' ?_; refine TC.seq ?_; refine TC.region ?_; refine TL.run1 (pure_move rfl) rfl ?_; refine TL.run1 (pure_move rfl) rfl ?_; refine TL.run1 (pure_move rfl) rfl ?_; refine TL.run1 (pure_move rfl) rfl ?_; refine TL.run1 (pure_build Ty.pl77 Ty.zero77 (.cons rfl rfl (.one rfl) rfl (.here (.nil _)) (.cons rfl rfl (.one rfl) rfl (.skip (.here (.nil _))) (.nil _)))) rfl ?_
    refine TL.buildRow (xs := [.tmp 29]) Ty.app27 (by decide) rfl rfl (.cons rfl (.agg _) rfl .nil) rfl (fun v30 hv30 => ?_)
    refine TL.callD (H1 := [.row v30 77 2 [[D.v (.int .i64 key), .v (.int .i64 value)]], .row v1 77 2 (encP l)]) (H2 := []) (SplitR.all _) (insertAny_spec l v1 v30 (lbI (keysP l) key) key value (by omega) (by omega) hl) (.cons rfl (.cons rfl (.cons rfl .nil))) Try.call69 (fun t ht => by cases ht; exact of_decide_eq_true rfl) ?_
    rintro r2 H2 ⟨v2, rfl, rfl⟩
    show TL _ _ _ _ _ [Blk.row v2 77 2 ((encP l).take ((lbI (keysP l) key) : Int).toNat ++ [[D.v (.int .i64 key), .v (.int .i64 value)]] ++ (encP l).drop ((lbI (keysP l) key) : Int).toNat)]
    refine TL.run1 (pure_assign rfl) rfl ?_; refine TL.nil' ?_; refine TC.ret ?_
    have hres : (encP l).take ((lbI (keysP l) key) : Int).toNat ++ [[D.v (.int .i64 key), .v (.int .i64 value)]] ++ (encP l).drop ((lbI (keysP l) key) : Int).toNat = encP (setB l key value) := by (unfold setB; rw [hin, if_neg (by simp), Int.toNat_natCast, encP_append, encP_take, encP_drop, List.append_assoc]; rfl)
    exact retF_row (xs := (encP l).take ((lbI (keysP l) key) : Int).toNat ++ [[D.v (.int .i64 key), .v (.int .i64 value)]] ++ (encP l).drop ((lbI (keysP l) key) : Int).toNat) rfl (by repeat (first | exact List.Mem.head _ | apply List.Mem.tail)) (by decide) (by rw [hres]; exact encP_each _) (by rw [hres])
set_option maxRecDepth 100000 in
theorem ClearB_spec (l : List (Int × Int)) (key : Int) (hinc : Inc (keysP l)) (hl : l.length ≤ 1000000) : Fun Try.prog 57 [.sl 2 (encP l), .v (.int .i64 key)] (.sl 2 (encP (clearB l key))) := by
  refine Fun.enterF (n := 23) (rs := [.tmp 4]) Try.func57 rfl Try.ntmps57 Try.results57 rfl (fun w F => ?_)
  have hk := encP_len l
  refine TC.seq ?_; refine TC.region ?_; refine TL.run1 (pure_assign rfl) rfl ?_; refine TL.nil' ?_; refine TC.seq ?_; refine TC.region ?_; refine TL.run1 (pure_move rfl) rfl ?_; refine TL.run1 (pure_move rfl) rfl ?_; refine TL.run1 (pure_call (searchP_spec _ _ hinc hl) (.cons rfl (.cons rfl .nil)) Try.call66) rfl ?_; refine TL.run1 (pure_move rfl) rfl ?_; refine TL.run1 (pure_extract rfl rfl) rfl ?_; refine TL.run1 (pure_extract rfl rfl) rfl ?_; refine TL.run1 (pure_assign rfl) rfl ?_; refine TL.run1 (pure_assign rfl) rfl ?_; refine TL.nil' ?_; refine TC.seq ?_; refine TC.region ?_; refine TL.run1 (pure_move rfl) rfl ?_; refine TL.callD (H1 := []) (H2 := _) (SplitR.none _) (Clone_spec l hl) (.cons rfl .nil) Try.call67 (fun t ht => by cases ht; exact of_decide_eq_true rfl) ?_
  rintro r1 H1 ⟨v1, rfl, rfl⟩
  show TL _ _ _ _ _ [Blk.row v1 77 2 (encP l)]
  refine TL.run1 (pure_assign rfl) rfl ?_; refine TL.nil' ?_; refine TC.seq ?_; refine TC.seq ?_; refine TC.region ?_; refine TL.run1 (pure_move rfl) rfl ?_; refine TL.nil' ?_
  first | refine TC.condD rfl (fun hc16 => ?_) (fun hc16 => ?_) | refine TC.condN rfl (fun hc16 => ?_) (fun hc16 => ?_) | refine TC.cond rfl (fun hc16 => ?_) (fun hc16 => ?_)
  · try dsimp only at hc16
    have hin : inI (keysP l) key = true := decide_eq_true hc16
    obtain ⟨hlt, hkey⟩ := in_at hin
    refine TC.region ?_; refine TL.run1 (pure_move rfl) rfl ?_; refine TL.run1 (pure_move rfl) rfl ?_; refine TL.run1 (pure_move rfl) rfl ?_; refine TL.run1 (pure_add rfl rfl (mkI64 (by omega) (by omega))) rfl ?_; refine TL.callD (H1 := [.row v1 77 2 (encP l)]) (H2 := []) (SplitR.all _) (deleteAny_spec l v1 (lbI (keysP l) key) (by omega) (by omega) hl) (.cons rfl (.cons rfl (.cons rfl .nil))) Try.call68 (fun t ht => by cases ht; exact of_decide_eq_true rfl) ?_
    rintro r2 H2 ⟨v2, rfl, rfl⟩
    show TL _ _ _ _ _ [Blk.row v2 77 2 ((encP l).take ((lbI (keysP l) key) : Int).toNat ++ (encP l).drop (((lbI (keysP l) key) : Int).toNat + 1))]
    refine TL.run1 (pure_assign rfl) rfl ?_; refine TL.nil' ?_; refine TC.seq ?_; refine TC.region ?_; refine TL.run1 (pure_move rfl) rfl ?_; refine TL.run1 (pure_assign rfl) rfl ?_; refine TL.nil' ?_; refine TC.ret ?_
    have hres : (encP l).take ((lbI (keysP l) key) : Int).toNat ++ (encP l).drop (((lbI (keysP l) key) : Int).toNat + 1) = encP (clearB l key) := by (unfold clearB; rw [if_pos hin, Int.toNat_natCast, encP_append, encP_take, encP_drop])
    exact retF_row (xs := (encP l).take ((lbI (keysP l) key) : Int).toNat ++ (encP l).drop (((lbI (keysP l) key) : Int).toNat + 1)) rfl (by repeat (first | exact List.Mem.head _ | apply List.Mem.tail)) (by decide) (by rw [hres]; exact encP_each _) (by rw [hres])
  · try dsimp only at hc16
    have hin : inI (keysP l) key = false := decide_eq_false hc16
    have hle := lbI_le (keysP l) key
    rw [keysP_len] at hle
    refine TC.skip' ?_; refine TC.seq ?_; refine TC.region ?_; refine TL.run1 (pure_move rfl) rfl ?_; refine TL.run1 (pure_assign rfl) rfl ?_; refine TL.nil' ?_; refine TC.ret ?_
    exact retF_row rfl (by repeat (first | exact List.Mem.head _ | apply List.Mem.tail)) (by decide) (encP_each _) (by unfold clearB; rw [hin, if_neg (by simp)])

theorem Set_spec (l : List (Int × Int)) (key : Int) (value : Int) (hinc : Inc (keysP l)) (hl : l.length ≤ 1000000) : Fun Try.prog 58 [.sl 2 (encP l), .v (.int .i64 key), .v (.int .i64 value)] (.sl 2 (encP (setP l key value))) := setB_eq hinc key value ▸ SetB_spec l key value hinc hl
theorem Clear_spec (l : List (Int × Int)) (key : Int) (hinc : Inc (keysP l)) (hl : l.length ≤ 1000000) : Fun Try.prog 57 [.sl 2 (encP l), .v (.int .i64 key)] (.sl 2 (encP (clearP l key))) := clearB_eq hinc key ▸ ClearB_spec l key hinc hl
-- sEqual_spec: not in this seat
-- Equal_spec: not in this seat
end Go.Ob
