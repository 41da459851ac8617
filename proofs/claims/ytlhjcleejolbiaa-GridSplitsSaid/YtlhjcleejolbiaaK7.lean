import Derived.Test.YtlhjcleejolbiaaM2
import Derived.Test.YtlhjcleejolbiaaObU
set_option linter.unusedVariables false
set_option linter.unusedSimpArgs false
namespace Go.Ob
open Go.Proofs

theorem ins_grow {α : Type} (X : List α) (i n : Nat) (hn : n = X.length) (hi : i < n) (kv z : α) :
    ((((X.take i ++ List.replicate (n + 1 - i) z).take i ++ [kv] ++ (X.take i ++ List.replicate (n + 1 - i) z).drop (i + [kv].length)).take (i + 1) ++ (X.drop i).take (n - i) ++ ((X.take i ++ List.replicate (n + 1 - i) z).take i ++ [kv] ++ (X.take i ++ List.replicate (n + 1 - i) z).drop (i + [kv].length)).drop (i + 1 + ((X.drop i).take (n - i)).length))) = X.take i ++ [kv] ++ X.drop i := by
  have l1 : (X.take i).length = i := by rw [List.length_take]; omega
  have e1 : (X.take i ++ List.replicate (n + 1 - i) z).take i = X.take i := by
    rw [List.take_append, l1, List.take_of_length_le (by omega), Nat.sub_self, List.take_zero, List.append_nil]
  have e2 : (X.take i ++ List.replicate (n + 1 - i) z).drop (i + [kv].length) = List.replicate (n - i) z := by
    rw [List.drop_append, l1, List.drop_eq_nil_of_le (by rw [l1]; simp), List.nil_append, List.length_singleton, List.drop_replicate]
    congr 1; omega
  have e3 : (X.drop i).take (n - i) = X.drop i := List.take_of_length_le (by rw [List.length_drop]; omega)
  have l2 : (X.take i ++ [kv]).length = i + 1 := by rw [List.length_append, l1]; rfl
  rw [e1, e2, e3]
  have e4 : (X.take i ++ [kv] ++ List.replicate (n - i) z).take (i + 1) = X.take i ++ [kv] := by
    rw [List.take_append, l2, List.take_of_length_le (by omega), Nat.sub_self, List.take_zero, List.append_nil]
  have e5 : (X.take i ++ [kv] ++ List.replicate (n - i) z).drop (i + 1 + (X.drop i).length) = [] := List.drop_eq_nil_of_le (by rw [List.length_append, l2, List.length_replicate, List.length_drop]; omega)
  rw [e4, e5, List.append_nil]
theorem ins_in {α : Type} (X : List α) (i n : Nat) (hn : n = X.length) (hi : i < n) (kv : α) :
    ((X.take (i + 1) ++ (X.drop i).take (n - i) ++ X.drop (i + 1 + ((X.drop i).take (n - i)).length)).take i ++ [kv] ++ (X.take (i + 1) ++ (X.drop i).take (n - i) ++ X.drop (i + 1 + ((X.drop i).take (n - i)).length)).drop (i + [kv].length)) = X.take i ++ [kv] ++ X.drop i := by
  have e3 : (X.drop i).take (n - i) = X.drop i := List.take_of_length_le (by rw [List.length_drop]; omega)
  have e5 : X.drop (i + 1 + (X.drop i).length) = [] := List.drop_eq_nil_of_le (by rw [List.length_drop]; omega)
  have l1 : (X.take (i + 1)).length = i + 1 := by rw [List.length_take]; omega
  rw [e3, e5, List.append_nil]
  have e1 : (X.take (i + 1) ++ X.drop i).take i = X.take i := by
    rw [List.take_append, List.take_take, l1, show min i (i + 1) = i by omega, show i - (i + 1) = 0 by omega, List.take_zero, List.append_nil]
  have e2 : (X.take (i + 1) ++ X.drop i).drop (i + [kv].length) = X.drop i := by
    rw [List.length_singleton, List.drop_append, l1, List.drop_eq_nil_of_le (by omega), Nat.sub_self, List.nil_append, List.drop_zero]
  rw [e1, e2]
theorem ins_len {α : Type} (X S : List α) (p n : Nat) (hn : n = max X.length (p + S.length)) (hp : p ≤ X.length) : n = (X.take p ++ S ++ X.drop (p + S.length)).length := by
  simp only [List.length_append, List.length_take, List.length_drop]; omega
set_option maxRecDepth 100000 in
theorem sClone_spec (l : List (Int × Int)) (hl : l.length ≤ 1000000) : CallD Try.prog 72 [.sl 2 (encP l)] [] (fun r H' => ∃ v, r = .v v ∧ H' = [.row v 77 2 (encP l)]) := by
  refine CallD.enter (n := 8) (rs := [.tmp 2]) Try.func72 rfl Try.ntmps72 Try.results72 rfl (fun w F => ?_)
  have hk := encP_len l
  refine TC.seq ?_; refine TC.region ?_; refine TL.run1 (pure_assign rfl) rfl ?_; refine TL.nil' ?_; refine TC.seq ?_; refine TC.seq ?_; refine TC.region ?_; refine TL.run1 (pure_move rfl) rfl ?_
  refine TL.eqlNil Try.underlying27 rfl rfl rfl (fun b hb => ?_)
  refine TL.nil' ?_
  first | refine TC.condD rfl (fun hc4 => ?_) (fun hc4 => ?_) | refine TC.condN rfl (fun hc4 => ?_) (fun hc4 => ?_) | refine TC.cond rfl (fun hc4 => ?_) (fun hc4 => ?_)
  · try dsimp only at hc4
    refine TC.nilrow 77 2 ?_; refine TC.seq ?_; refine TC.region ?_; refine TL.run1 (pure_assign rfl) rfl ?_; refine TL.nil' ?_; refine TC.ret ?_; refine then_ret ?_
    exact retRow rfl (by repeat (first | exact List.Mem.head _ | apply List.Mem.tail)) (hb hc4).symm
  · try dsimp only at hc4
    refine TC.skip' ?_; refine TC.seq ?_; refine TC.region ?_
    refine TL.buildRow (xs := []) (ys := []) Ty.app27 (by decide) rfl rfl .nil rfl (fun v5 hv5 => ?_)
    refine TL.run1 (pure_move rfl) rfl ?_
    refine TL.append Ty.app27 rfl rfl (by intro _; repeat (first | exact UpdR.here _ | apply UpdR.there)) (by simp only [List.length_append, List.length_cons, List.length_nil]; omega) (by simp only [List.length_append, List.length_cons, List.length_nil]; omega) rfl (fun v7 hv7 => ?_)
    refine TL.run1 (pure_assign rfl) rfl ?_; refine TL.nil' ?_; refine TC.ret ?_
    exact retRow rfl (by repeat (first | exact List.Mem.head _ | apply List.Mem.tail)) rfl
set_option maxRecDepth 100000 in
theorem Clone_spec (l : List (Int × Int)) (hl : l.length ≤ 1000000) : CallD Try.prog 67 [.sl 2 (encP l)] [] (fun r H' => ∃ v, r = .v v ∧ H' = [.row v 77 2 (encP l)]) := by
  refine CallD.enter (n := 5) (rs := [.tmp 2]) Try.func67 rfl Try.ntmps67 Try.results67 rfl (fun w F => ?_)
  refine TC.seq ?_; refine TC.region ?_; refine TL.run1 (pure_assign rfl) rfl ?_; refine TL.nil' ?_; refine TC.seq ?_; refine TC.region ?_; refine TL.run1 (pure_move rfl) rfl ?_; refine TL.callD (H1 := []) (H2 := _) (SplitR.none _) (sClone_spec l hl) (.cons rfl .nil) Try.call72 (fun t ht => by cases ht; exact of_decide_eq_true rfl) ?_
  rintro r1 H1 ⟨v1, rfl, rfl⟩
  show TL _ _ _ _ _ [Blk.row v1 77 2 (encP l)]
  refine TL.run1 (pure_assign rfl) rfl ?_; refine TL.nil' ?_; refine TC.ret ?_
  exact retRow rfl (by repeat (first | exact List.Mem.head _ | apply List.Mem.tail)) rfl
set_option maxRecDepth 100000 in
theorem insertNil_spec (g2 c2 : Nat) (key value : Int) (hc2 : 1 ≤ c2) : CallD Try.prog 69 [.v (.slice none 0 0), .v (.int .i64 0), .v (RowV g2 1 c2)] [.row (RowV g2 1 c2) 77 2 [[D.v (.int .i64 key), .v (.int .i64 value)]], .row (.slice none 0 0) 77 2 []] (fun r H' => ∃ v, r = .v v ∧ H' = [.row v 77 2 ([[D.v (.int .i64 key), .v (.int .i64 value)]])]) := by
  refine CallD.enter (n := 95) (rs := [.tmp 6]) Try.func69 rfl Try.ntmps69 Try.results69 rfl (fun w F => ?_)
  refine TC.seq ?_; refine TC.region ?_; refine TL.run1 (pure_assign rfl) rfl ?_; refine TL.nil' ?_; refine TC.seq ?_; refine TC.region ?_; refine TL.run1 (pure_move rfl) rfl ?_; refine TL.run1 (pure_move rfl) rfl ?_; refine TL.run1 (pure_sliceNil Ty.sl27 rfl rfl) rfl ?_; refine TL.nil' ?_; refine TC.seq ?_; refine TC.region ?_; refine TL.run1 (pure_move rfl) rfl ?_; refine TL.run1 (pure_lenV Ty.sl27 rfl) rfl ?_; refine TL.run1 (pure_assign rfl) rfl ?_; refine TL.nil' ?_; refine TC.seq ?_; refine TC.seq ?_; refine TC.region ?_; refine TL.run1 (pure_move rfl) rfl ?_; refine TL.run1 (pure_eql rfl rfl) rfl ?_; refine TL.nil' ?_
  first | refine TC.condD rfl (fun hc16 => ?_) (fun hc16 => ?_) | refine TC.condN rfl (fun hc16 => ?_) (fun hc16 => ?_) | refine TC.cond rfl (fun hc16 => ?_) (fun hc16 => ?_)
  · try dsimp only at hc16
    exact absurd hc16 (by simp)
  · try dsimp only at hc16
    refine TC.skip' ?_; refine TC.seq ?_; refine TC.region ?_; refine TL.run1 (pure_move rfl) rfl ?_; refine TL.run1 (pure_len_nil Ty.sl27 rfl) rfl ?_; refine TL.run1 (pure_assign rfl) rfl ?_; refine TL.nil' ?_; refine TC.seq ?_; refine TC.seq ?_; refine TC.region ?_; refine TL.run1 (pure_move rfl) rfl ?_; refine TL.run1 (pure_move rfl) rfl ?_; refine TL.run1 (pure_eql rfl rfl) rfl ?_; refine TL.nil' ?_
    first | refine TC.condD rfl (fun hc22 => ?_) (fun hc22 => ?_) | refine TC.condN rfl (fun hc22 => ?_) (fun hc22 => ?_) | refine TC.cond rfl (fun hc22 => ?_) (fun hc22 => ?_)
    · try dsimp only at hc22
      refine TC.frz 2 [.row (.slice none 0 0) 77 2 []] (.cons _ (.cons_cons _ .slnil)) rfl (.rowS (v := RowV g2 1 c2) ⟨(by repeat (first | exact List.Mem.head _ | apply List.Mem.tail)), fun x hx => by rcases List.mem_singleton.1 hx with rfl; intro gg h1 h2; simp [Blk.blk, Value.ownBlock] at h2⟩ (by decide) (by simp)) ?_; refine TC.seq ?_; refine TC.region ?_; refine TL.run1 (pure_move rfl) rfl ?_; refine TL.run1 (pure_move rfl) rfl ?_
      refine TL.append (xs := []) (ys := [[D.v (.int .i64 key), .v (.int .i64 value)]]) Ty.app27 rfl rfl (by intro _; exact UpdR.here _) (by simp) (by simp) rfl (fun v25 hv25 => ?_)
      refine TL.run1 (pure_assign rfl) rfl ?_; refine TL.nil' ?_; refine TC.ret ?_; refine then_ret ?_
      exact retRow rfl (by repeat (first | exact List.Mem.head _ | apply List.Mem.tail)) rfl
    · try dsimp only at hc22
      exact absurd rfl hc22
set_option maxRecDepth 100000 in
theorem insert_spec (l : List (Int × Int)) (g n cap g2 c2 i : Nat) (key value : Int) (hn : n = l.length) (hcap : n ≤ cap) (hi : i ≤ n) (hgg : g ≠ g2) (hl : l.length ≤ 1000000) (hc2 : 1 ≤ c2) : CallD Try.prog 69 [.v (RowV g n cap), .v (.int .i64 (i : Int)), .v (RowV g2 1 c2)] [.row (RowV g2 1 c2) 77 2 [[D.v (.int .i64 key), .v (.int .i64 value)]], .row (RowV g n cap) 77 2 (encP l)] (fun r H' => ∃ v, r = .v v ∧ H' = [.row v 77 2 ((encP l).take i ++ [[D.v (.int .i64 key), .v (.int .i64 value)]] ++ (encP l).drop i)]) := by
  refine CallD.enter (n := 95) (rs := [.tmp 6]) Try.func69 rfl Try.ntmps69 Try.results69 rfl (fun w F => ?_)
  have hk := encP_len l
  refine TC.seq ?_; refine TC.region ?_; refine TL.run1 (pure_assign rfl) rfl ?_; refine TL.nil' ?_; refine TC.seq ?_; refine TC.region ?_; refine TL.run1 (pure_move rfl) rfl ?_; refine TL.run1 (pure_move rfl) rfl ?_; refine TL.run1 (pure_sliceV (l := i) (h := n) (m := cap) Ty.sl27 rfl rfl ⟨rfl, rfl⟩ rfl (by omega) (by omega) (by omega)) rfl ?_; refine TL.nil' ?_; refine TC.seq ?_; refine TC.region ?_; refine TL.run1 (pure_move rfl) rfl ?_; refine TL.run1 (pure_lenV Ty.sl27 rfl) rfl ?_; refine TL.run1 (pure_assign rfl) rfl ?_; refine TL.nil' ?_; refine TC.seq ?_; refine TC.seq ?_; refine TC.region ?_; refine TL.run1 (pure_move rfl) rfl ?_; refine TL.run1 (pure_eql rfl rfl) rfl ?_; refine TL.nil' ?_
  first | refine TC.condD rfl (fun hc16 => ?_) (fun hc16 => ?_) | refine TC.condN rfl (fun hc16 => ?_) (fun hc16 => ?_) | refine TC.cond rfl (fun hc16 => ?_) (fun hc16 => ?_)
  · try dsimp only at hc16
    exact absurd hc16 (by simp)
  · try dsimp only at hc16
    refine TC.skip' ?_; refine TC.seq ?_; refine TC.region ?_; refine TL.run1 (pure_move rfl) rfl ?_; refine TL.run1 (pure_lenV Ty.sl27 rfl) rfl ?_; refine TL.run1 (pure_assign rfl) rfl ?_; refine TL.nil' ?_; refine TC.seq ?_; refine TC.seq ?_; refine TC.region ?_; refine TL.run1 (pure_move rfl) rfl ?_; refine TL.run1 (pure_move rfl) rfl ?_; refine TL.run1 (pure_eql rfl rfl) rfl ?_; refine TL.nil' ?_
    first | refine TC.condD rfl (fun hc22 => ?_) (fun hc22 => ?_) | refine TC.condN rfl (fun hc22 => ?_) (fun hc22 => ?_) | refine TC.cond rfl (fun hc22 => ?_) (fun hc22 => ?_)
    · try dsimp only at hc22
      refine TC.frz 2 [.row (RowV g n cap) 77 2 (encP l)] (.cons _ (.cons_cons _ .slnil)) rfl (.rowS (v := RowV g2 1 c2) ⟨(by repeat (first | exact List.Mem.head _ | apply List.Mem.tail)), fun x hx => by rcases List.mem_singleton.1 hx with rfl; intro gg h1 h2; exact hgg (by simpa [Blk.blk, Value.ownBlock] using h2.trans h1.symm)⟩ (by decide) (by simp)) ?_; refine TC.seq ?_; refine TC.region ?_; refine TL.run1 (pure_move rfl) rfl ?_; refine TL.run1 (pure_move rfl) rfl ?_
      refine TL.append (v := RowV g n cap) (xs := (encP l)) (ys := [[D.v (.int .i64 key), .v (.int .i64 value)]]) Ty.app27 rfl rfl (by intro _; exact UpdR.here _) (by simp only [List.length_cons, List.length_nil]; omega) (by simp only [List.length_cons, List.length_nil]; omega) rfl (fun v25 hv25 => ?_)
      refine TL.run1 (pure_assign rfl) rfl ?_; refine TL.nil' ?_; refine TC.ret ?_; refine then_ret ?_
      exact retRow rfl (by repeat (first | exact List.Mem.head _ | apply List.Mem.tail)) (by rw [show i = (encP l).length by omega]; simp)
    · try dsimp only at hc22
      refine TC.skip' ?_; refine TC.seq ?_; refine TC.seq ?_; refine TC.region ?_; refine TL.run1 (pure_move rfl) rfl ?_; refine TL.run1 (pure_move rfl) rfl ?_; refine TL.run1 (pure_add rfl rfl (mkI64 (by omega) (by omega))) rfl ?_; refine TL.run1 (pure_move rfl) rfl ?_; refine TL.run1 (pure_cap Ty.sl27 rfl) rfl ?_; refine TL.run1 (pure_gtr rfl rfl) rfl ?_; refine TL.nil' ?_
      first | refine TC.condD rfl (fun hc31 => ?_) (fun hc31 => ?_) | refine TC.condN rfl (fun hc31 => ?_) (fun hc31 => ?_) | refine TC.cond rfl (fun hc31 => ?_) (fun hc31 => ?_)
      · try dsimp only at hc31
        refine TC.seq ?_; refine TC.region ?_; refine TL.run1 (pure_move rfl) rfl ?_; refine TL.run1 (pure_move rfl) rfl ?_; refine TL.run1 (pure_sliceV (l := 0) (h := i) (m := cap) Ty.sl27 rfl rfl rfl rfl (by omega) (by omega) (by omega)) rfl ?_; refine TL.run1 (pure_move rfl) rfl ?_; refine TL.run1 (pure_move rfl) rfl ?_; refine TL.run1 (pure_add rfl rfl (mkI64 (by omega) (by omega))) rfl ?_; refine TL.run1 (pure_move rfl) rfl ?_; refine TL.run1 (pure_sub rfl rfl (mkI64 (by omega) (by omega))) rfl ?_
        refine TL.appendZeros (g := g) (p := i) (zc := n + 1 - i) (n := n) (cap := cap) (xs := (encP l)) Ty.app27 Try.underlying3 Ty.zero77 rfl (show some _ = some _ from by rw [ite_self]; rfl) (castI (by omega)) (by repeat (first | exact List.Mem.head _ | apply List.Mem.tail)) (by omega) (by omega) (by omega) (by omega) rfl (fun g3 c3 hg3 => ?_)
        rw [show i + (n + 1 - i) = n + 1 by omega] at hg3 ⊢
        refine TL.run1 (pure_assign rfl) rfl ?_; refine TL.nil' ?_; refine TC.seq ?_; refine TC.region ?_; refine TL.run1 (pure_move rfl) rfl ?_; refine TL.run1 (pure_move rfl) rfl ?_; refine TL.run1 (pure_sliceV (l := i) (h := n + 1) (m := c3) Ty.sl27 rfl rfl ⟨rfl, rfl⟩ rfl (by omega) (by omega) (by omega)) rfl ?_
        rw [if_neg (show ¬ c3 = i by omega)]
        refine TL.run1 (pure_move rfl) rfl ?_; refine TL.copyRow (p := i) (k := 1) (n := n + 1) (n' := n + 1) (cap := c3) (xs := (encP l).take i ++ List.replicate (n + 1 - i) [.v (.int .i64 0), .v (.int .i64 0)]) (src := [[D.v (.int .i64 key), .v (.int .i64 value)]]) Ty.app27 rfl (by omega) (.part (b := 0) (k := 1) (xs := [[D.v (.int .i64 key), .v (.int .i64 value)]]) (n := 1) rfl (by repeat (first | exact List.Mem.head _ | apply List.Mem.tail)) (by omega) (by simp) (by omega)) (by (show 1 = min _ _); omega) (by repeat (first | exact UpdR.here _ | apply UpdR.there)) (ins_len _ _ _ _ (by simp only [List.length_append, List.length_take, List.length_replicate, List.length_cons, List.length_nil]; omega) (by simp only [List.length_append, List.length_take, List.length_replicate]; omega)) (by simp only [List.length_append, List.length_take, List.length_replicate]; omega) (by simp only [List.length_cons, List.length_nil]; omega) rfl ?_; refine TL.nil' ?_; refine TC.seq ?_; refine TC.drawTailN 8 Ty.follows (by kernel_rfl) (by kernel_rfl) ?_
        simp only [List.take_succ_cons, List.take_zero, List.drop_succ_cons, List.drop_zero]
        refine TD.run1 (pure_move rfl) rfl ?_; refine TD.run1 (pure_move rfl) rfl ?_; refine TD.run1 (pure_move rfl) rfl ?_; refine TD.run1 (pure_add rfl rfl (mkI64 (by omega) (by omega))) rfl ?_; refine TD.run1 (pure_sliceV (l := i + 1) (h := n + 1) (m := c3) Ty.sl27 rfl (castI (by omega)) ⟨rfl, rfl⟩ rfl (by omega) (by omega) (by omega)) rfl ?_
        rw [if_neg (show ¬ c3 = i + 1 by omega)]
        refine TD.run1 (pure_move rfl) rfl ?_; refine TD.run1 (pure_move rfl) rfl ?_; refine TD.run1 (pure_sliceV (l := i) (h := n) (m := cap) Ty.sl27 rfl rfl ⟨rfl, rfl⟩ rfl (by omega) (by omega) (by omega)) rfl ?_
        rw [if_neg (show ¬ cap = i by omega)]
        refine TD.nil ?_
        show TL _ _ _ _ _ _
        refine TL.copyRow (p := i + 1) (k := n - i) (n' := n + 1) (cap := c3) (src := ((encP l).drop i).take (n - i)) Ty.app27 rfl (by omega) (.part (b := i) (k := n - i) (xs := (encP l)) (n := n) (cap := cap) rfl (by repeat (first | exact List.Mem.head _ | apply List.Mem.tail)) (by omega) (by omega) (by omega)) (by (show n - i = min _ _); omega) (by repeat (first | exact UpdR.here _ | apply UpdR.there)) (ins_len _ _ _ _ (by simp only [List.length_append, List.length_take, List.length_drop, List.length_replicate, List.length_cons, List.length_nil]; omega) (by simp only [List.length_append, List.length_take, List.length_drop, List.length_replicate, List.length_cons, List.length_nil]; omega)) (by simp only [List.length_append, List.length_take, List.length_drop, List.length_replicate, List.length_cons, List.length_nil]; omega) (by simp only [List.length_take, List.length_drop]; omega) rfl ?_; refine TL.nil' ?_; refine TC.seq ?_; refine TC.region ?_; refine TL.run1 (pure_move rfl) rfl ?_; refine TL.run1 (pure_assign rfl) rfl ?_; refine TL.nil' ?_; refine TC.ret ?_; refine then_ret ?_
        exact retRow (e := 77) (es := 2) rfl (by repeat (first | exact List.Mem.head _ | apply List.Mem.tail)) (ins_grow (encP l) i n (by omega) (by omega) _ [.v (.int .i64 0), .v (.int .i64 0)])
      · try dsimp only at hc31
        refine TC.skip' ?_; refine TC.seq ?_
        have hroom : n + 1 ≤ cap := by omega
        refine TC.region ?_; refine TL.run1 (pure_move rfl) rfl ?_; refine TL.run1 (pure_move rfl) rfl ?_; refine TL.run1 (pure_move rfl) rfl ?_; refine TL.run1 (pure_add rfl rfl (mkI64 (by omega) (by omega))) rfl ?_; refine TL.run1 (pure_sliceV (l := 0) (h := n + 1) (m := cap) Ty.sl27 rfl rfl (castI (by omega)) rfl (by omega) (by omega) (by omega)) rfl ?_
        rw [ite_self]
        refine TL.run1 (pure_assign rfl) rfl ?_; refine TL.nil' ?_; refine TC.seq ?_; refine TC.seq ?_; refine TC.region ?_; refine TL.run1 (pure_move rfl) rfl ?_; refine TL.run1 (pure_move rfl) rfl ?_; refine TL.run1 (pure_move rfl) rfl ?_; refine TL.run1 (pure_move rfl) rfl ?_; refine TL.run1 (pure_add rfl rfl (mkI64 (by omega) (by omega))) rfl ?_; refine TL.run1 (pure_sliceV (l := i + 1) (h := n + 1) (m := cap) Ty.sl27 rfl (castI (by omega)) ⟨rfl, rfl⟩ rfl (by omega) (by omega) (by omega)) rfl ?_
        rw [if_neg (show ¬ cap = i + 1 by omega)]
        refine TL.overlaps (g1 := g2) (n1 := 1) (cap1 := c2) (g2 := g) (n2 := n) (cap2 := cap) (H1 := [.row (RowV g2 1 c2) 77 2 [[D.v (.int .i64 key), .v (.int .i64 value)]]]) (H2 := [.row (RowV g n cap) 77 2 (encP l)]) Ty.sl27 (fun aa w v h => by rw [run_callFunc_extern Try.func79 (by kernel_rfl) (by kernel_rfl) (by kernel_rfl) (e := Extern.SlicesOverlaps.overlaps #[27, 27] #[4]) (by kernel_rfl), h]; rfl) rfl rfl (.left (.right .nil)) (by repeat (first | exact List.Mem.head _ | apply List.Mem.tail)) (by repeat (first | exact List.Mem.head _ | apply List.Mem.tail)) (by omega) (by omega) rfl ?_; refine TL.run1 (pure_not rfl) rfl ?_; refine TL.nil' ?_
        first | refine TC.condD rfl (fun hc68 => ?_) (fun hc68 => ?_) | refine TC.condN rfl (fun hc68 => ?_) (fun hc68 => ?_) | refine TC.cond rfl (fun hc68 => ?_) (fun hc68 => ?_)
        · try dsimp only at hc68
          refine TC.seq ?_; refine TC.drawTailN 8 Ty.follows (by kernel_rfl) (by kernel_rfl) ?_
          simp only [List.take_succ_cons, List.take_zero, List.drop_succ_cons, List.drop_zero]
          refine TD.run1 (pure_move rfl) rfl ?_; refine TD.run1 (pure_move rfl) rfl ?_; refine TD.run1 (pure_move rfl) rfl ?_; refine TD.run1 (pure_add rfl rfl (mkI64 (by omega) (by omega))) rfl ?_; refine TD.run1 (pure_sliceV (l := i + 1) (h := n + 1) (m := cap) Ty.sl27 rfl (castI (by omega)) ⟨rfl, rfl⟩ rfl (by omega) (by omega) (by omega)) rfl ?_
          rw [if_neg (show ¬ cap = i + 1 by omega)]
          refine TD.run1 (pure_move rfl) rfl ?_; refine TD.run1 (pure_move rfl) rfl ?_; refine TD.run1 (pure_sliceV (l := i) (h := n + 1) (m := cap) Ty.sl27 rfl rfl ⟨rfl, rfl⟩ rfl (by omega) (by omega) (by omega)) rfl ?_
          rw [if_neg (show ¬ cap = i by omega)]
          refine TD.nil ?_
          show TL _ _ _ _ _ _
          refine TL.copyRow (p := i + 1) (k := n - i) (n' := n + 1) (cap := cap) (src := ((encP l).drop i).take (n - i)) Ty.app27 rfl (by omega) (.part (b := i) (k := n - i) (xs := (encP l)) (n := n) (cap := cap) rfl (by repeat (first | exact List.Mem.head _ | apply List.Mem.tail)) (by omega) (by omega) (by omega)) (by (show n - i = min _ _); omega) (by repeat (first | exact UpdR.here _ | apply UpdR.there)) (ins_len _ _ _ _ (by simp only [List.length_take, List.length_drop]; omega) (by omega)) (by omega) (by simp only [List.length_take, List.length_drop]; omega) rfl ?_; refine TL.nil' ?_; refine TC.seq ?_; refine TC.region ?_; refine TL.run1 (pure_move rfl) rfl ?_; refine TL.run1 (pure_move rfl) rfl ?_; refine TL.run1 (pure_sliceV (l := i) (h := n + 1) (m := cap) Ty.sl27 rfl rfl ⟨rfl, rfl⟩ rfl (by omega) (by omega) (by omega)) rfl ?_
          rw [if_neg (show ¬ cap = i by omega)]
          refine TL.run1 (pure_move rfl) rfl ?_; refine TL.copyRow (p := i) (k := 1) (n' := n + 1) (cap := cap) (src := [[D.v (.int .i64 key), .v (.int .i64 value)]]) Ty.app27 rfl (by omega) (.part (b := 0) (k := 1) (xs := [[D.v (.int .i64 key), .v (.int .i64 value)]]) (n := 1) rfl (by repeat (first | exact List.Mem.head _ | apply List.Mem.tail)) (by omega) (by simp) (by omega)) (by (show 1 = min _ _); omega) (by repeat (first | exact UpdR.here _ | apply UpdR.there)) (ins_len _ _ _ _ (by simp only [List.length_append, List.length_take, List.length_drop, List.length_cons, List.length_nil]; omega) (by simp only [List.length_append, List.length_take, List.length_drop]; omega)) (by simp only [List.length_append, List.length_take, List.length_drop]; omega) (by simp only [List.length_cons, List.length_nil]; omega) rfl ?_; refine TL.nil' ?_; refine TC.seq ?_; refine TC.region ?_; refine TL.run1 (pure_move rfl) rfl ?_; refine TL.run1 (pure_assign rfl) rfl ?_; refine TL.nil' ?_; refine TC.ret ?_; refine then_ret ?_
          exact retRow (e := 77) (es := 2) rfl (by repeat (first | exact List.Mem.head _ | apply List.Mem.tail)) (ins_in (encP l) i n (by omega) (by omega) _)
        · try dsimp only at hc68
          exact absurd hc68 (by simp)

theorem insertAny_spec (l : List (Int × Int)) (v v2 : Value) (i : Int) (key value : Int) (h0 : 0 ≤ i) (hi : i ≤ l.length) (hl : l.length ≤ 1000000) :
    CallD Try.prog 69 [.v v, .v (.int .i64 i), .v v2] [.row v2 77 2 [[D.v (.int .i64 key), .v (.int .i64 value)]], .row v 77 2 (encP l)] (fun r H' => ∃ v, r = .v v ∧ H' = [.row v 77 2 ((encP l).take i.toNat ++ [[D.v (.int .i64 key), .v (.int .i64 value)]] ++ (encP l).drop i.toNat)]) := by
  intro w F vs hvl hv hh hF
  obtain ⟨i, rfl⟩ : ∃ n : Nat, i = n := ⟨i.toNat, by omega⟩
  rw [Int.toNat_natCast]
  obtain ⟨vals2, hown2, _⟩ := row_ok hh (List.mem_cons_self : Blk.row v2 77 2 [[D.v (.int .i64 key), .v (.int .i64 value)]] ∈ _)
  obtain ⟨vals, hown, _⟩ := row_ok hh (List.mem_cons_of_mem _ List.mem_cons_self : Blk.row v 77 2 (encP l) ∈ _)
  rcases hown2.2 with ⟨_, hn2⟩ | ⟨g2, c2, cur2, rfl, _, hg2, hle2, _⟩
  · simp at hn2
  have hk := encP_len l
  rcases hown.2 with ⟨rfl, hn⟩ | ⟨g, cap, cur, rfl, _, hg, hle, _⟩
  · have hl0 : l = [] := List.length_eq_zero_iff.1 (by omega)
    subst hl0
    obtain rfl : i = 0 := by simp at hi; omega
    exact insertNil_spec g2 c2 key value (by simpa using hle2) w F vs hvl hv hh hF
  · have hne : g ≠ g2 := fun he => (List.pairwise_cons.1 hh.apart).1 _ List.mem_cons_self g2 rfl (by rw [← he]; rfl)
    exact insert_spec l g _ cap g2 c2 i key value (by omega) hle (by omega) hne hl (by simpa using hle2) w F vs hvl hv hh hF
end Go.Ob
