import Derived.Test.YtlhjcleejolbiaaK8
import Derived.Test.YtlhjcleejolbiaaSg
set_option linter.unusedVariables false
set_option linter.unusedSimpArgs false
namespace Go.Ob
open Go.Proofs

theorem insM_grow {α : Type} (X V : List α) (i n m : Nat) (hn : n = X.length) (hm : m = V.length) (hi : i < n) (z : α) :
    ((((X.take i ++ List.replicate (n + m - i) z).take i ++ V ++ (X.take i ++ List.replicate (n + m - i) z).drop (i + V.length)).take (i + m) ++ (X.drop i).take (n - i) ++ ((X.take i ++ List.replicate (n + m - i) z).take i ++ V ++ (X.take i ++ List.replicate (n + m - i) z).drop (i + V.length)).drop (i + m + ((X.drop i).take (n - i)).length))) = X.take i ++ V ++ X.drop i := by
  have l1 : (X.take i).length = i := by rw [List.length_take]; omega
  have e1 : (X.take i ++ List.replicate (n + m - i) z).take i = X.take i := by
    rw [List.take_append, l1, List.take_of_length_le (by omega), Nat.sub_self, List.take_zero, List.append_nil]
  have e2 : (X.take i ++ List.replicate (n + m - i) z).drop (i + V.length) = List.replicate (n - i) z := by
    rw [List.drop_append, l1, List.drop_eq_nil_of_le (by rw [l1]; omega), List.nil_append, List.drop_replicate]
    congr 1; omega
  have e3 : (X.drop i).take (n - i) = X.drop i := List.take_of_length_le (by rw [List.length_drop]; omega)
  have l2 : (X.take i ++ V).length = i + m := by rw [List.length_append, l1]; omega
  rw [e1, e2, e3]
  have e4 : (X.take i ++ V ++ List.replicate (n - i) z).take (i + m) = X.take i ++ V := by
    rw [List.take_append, l2, List.take_of_length_le (by omega), Nat.sub_self, List.take_zero, List.append_nil]
  have e5 : (X.take i ++ V ++ List.replicate (n - i) z).drop (i + m + (X.drop i).length) = [] := List.drop_eq_nil_of_le (by rw [List.length_append, l2, List.length_replicate, List.length_drop]; omega)
  rw [e4, e5, List.append_nil]
theorem insM_in {α : Type} (X V : List α) (i n m : Nat) (W : List α) (hn : n = X.length) (hm : m = V.length) (hi : i < n) (hW : W.length = i + m) (hp : W.take i = X.take i) :
    ((W ++ (X.drop i).take (n - i) ++ ([] : List α)).take i ++ V ++ (W ++ (X.drop i).take (n - i) ++ ([] : List α)).drop (i + V.length)) = X.take i ++ V ++ X.drop i := by
  have e3 : (X.drop i).take (n - i) = X.drop i := List.take_of_length_le (by rw [List.length_drop]; omega)
  rw [e3, List.append_nil]
  have e1 : (W ++ X.drop i).take i = X.take i := by
    rw [List.take_append, hp, hW, show i - (i + m) = 0 by omega, List.take_zero, List.append_nil]
  have e2 : (W ++ X.drop i).drop (i + V.length) = X.drop i := by
    rw [List.drop_append, hW, List.drop_eq_nil_of_le (by omega), show i + V.length - (i + m) = 0 by omega, List.nil_append, List.drop_zero]
  rw [e1, e2]
set_option maxRecDepth 100000 in
theorem insertIn_spec (X V : List (List D)) (g n cap g2 m c2 i : Nat) (hn : n = X.length) (hm : m = V.length) (hm1 : 1 ≤ m) (hcap : n ≤ cap) (hi : i ≤ n) (hgg : g ≠ g2) (hl : n + m ≤ 1000000) (hc2 : m ≤ c2) (hVe : ∀ x ∈ V, x.length = 7) (hgap : i + m ≤ n) : CallD Try.prog 47 [.v (RowV g n cap), .v (.int .i64 (i : Int)), .v (RowV g2 m c2)] [.row (RowV g2 m c2) 74 7 V, .row (RowV g n cap) 74 7 X] (fun r H' => ∃ v, r = .v v ∧ H' = [.row v 74 7 (X.take i ++ V ++ X.drop i)]) := by
  refine CallD.enter (n := 95) (rs := [.tmp 6]) Try.func47 rfl Try.ntmps47 Try.results47 rfl (fun w F => ?_)
  refine TC.seq ?_
  refine TC.region ?_
  refine TL.run1 (pure_assign rfl) rfl ?_
  refine TL.nil' ?_
  refine TC.seq ?_
  refine TC.region ?_
  refine TL.run1 (pure_move rfl) rfl ?_
  refine TL.run1 (pure_move rfl) rfl ?_
  refine TL.run1 (pure_sliceV (l := i) (h := n) (m := cap) Ty.sl34 rfl rfl ⟨rfl, rfl⟩ rfl (by omega) (by omega) (by omega)) rfl ?_
  refine TL.nil' ?_
  refine TC.seq ?_
  refine TC.region ?_
  refine TL.run1 (pure_move rfl) rfl ?_
  refine TL.run1 (pure_lenV Ty.sl34 rfl) rfl ?_
  refine TL.run1 (pure_assign rfl) rfl ?_
  refine TL.nil' ?_
  refine TC.seq ?_
  refine TC.seq ?_
  refine TC.region ?_
  refine TL.run1 (pure_move rfl) rfl ?_
  refine TL.run1 (pure_eql rfl rfl) rfl ?_
  refine TL.nil' ?_
  first | refine TC.condD rfl (fun hc16 => ?_) (fun hc16 => ?_) | refine TC.condN rfl (fun hc16 => ?_) (fun hc16 => ?_) | refine TC.cond rfl (fun hc16 => ?_) (fun hc16 => ?_)
  · try dsimp only at hc16
    exact absurd hc16 (by omega)
  · try dsimp only at hc16
    refine TC.skip' ?_
    refine TC.seq ?_
    refine TC.region ?_
    refine TL.run1 (pure_move rfl) rfl ?_
    refine TL.run1 (pure_lenV Ty.sl34 rfl) rfl ?_
    refine TL.run1 (pure_assign rfl) rfl ?_
    refine TL.nil' ?_
    refine TC.seq ?_
    refine TC.seq ?_
    refine TC.region ?_
    refine TL.run1 (pure_move rfl) rfl ?_
    refine TL.run1 (pure_move rfl) rfl ?_
    refine TL.run1 (pure_eql rfl rfl) rfl ?_
    refine TL.nil' ?_
    first | refine TC.condD rfl (fun hc22 => ?_) (fun hc22 => ?_) | refine TC.condN rfl (fun hc22 => ?_) (fun hc22 => ?_) | refine TC.cond rfl (fun hc22 => ?_) (fun hc22 => ?_)
    · try dsimp only at hc22
      refine TC.frz 2 [.row (RowV g n cap) 74 7 X] (.cons _ (.cons_cons _ .slnil)) rfl (.rowS (v := RowV g2 m c2) ⟨(by repeat (first | exact List.Mem.head _ | apply List.Mem.tail)), fun x hx => by rcases List.mem_singleton.1 hx with rfl; intro gg h1 h2; exact hgg (by simpa [Blk.blk, Value.ownBlock] using h2.trans h1.symm)⟩ (by decide) hVe) ?_
      refine TC.seq ?_
      refine TC.region ?_
      refine TL.run1 (pure_move rfl) rfl ?_
      refine TL.run1 (pure_move rfl) rfl ?_
      refine TL.append (v := RowV g n cap) (xs := X) (ys := V) Ty.app34 rfl rfl (by intro _; exact UpdR.here _) (by omega) (by omega) rfl (fun v25 hv25 => ?_)
      refine TL.run1 (pure_assign rfl) rfl ?_
      refine TL.nil' ?_
      refine TC.ret ?_
      refine then_ret ?_
      exact retRow rfl (by repeat (first | exact List.Mem.head _ | apply List.Mem.tail)) (by rw [show i = X.length by omega]; simp)
    · try dsimp only at hc22
      refine TC.skip' ?_
      refine TC.seq ?_
      refine TC.seq ?_
      refine TC.region ?_
      refine TL.run1 (pure_move rfl) rfl ?_
      refine TL.run1 (pure_move rfl) rfl ?_
      refine TL.run1 (pure_add rfl rfl (mkI64 (by omega) (by omega))) rfl ?_
      refine TL.run1 (pure_move rfl) rfl ?_
      refine TL.run1 (pure_cap Ty.sl34 rfl) rfl ?_
      refine TL.run1 (pure_gtr rfl rfl) rfl ?_
      refine TL.nil' ?_
      first | refine TC.condD rfl (fun hc31 => ?_) (fun hc31 => ?_) | refine TC.condN rfl (fun hc31 => ?_) (fun hc31 => ?_) | refine TC.cond rfl (fun hc31 => ?_) (fun hc31 => ?_)
      · try dsimp only at hc31
        refine TC.seq ?_
        refine TC.region ?_
        refine TL.run1 (pure_move rfl) rfl ?_
        refine TL.run1 (pure_move rfl) rfl ?_
        refine TL.run1 (pure_sliceV (l := 0) (h := i) (m := cap) Ty.sl34 rfl rfl rfl rfl (by omega) (by omega) (by omega)) rfl ?_
        refine TL.run1 (pure_move rfl) rfl ?_
        refine TL.run1 (pure_move rfl) rfl ?_
        refine TL.run1 (pure_add rfl rfl (mkI64 (by omega) (by omega))) rfl ?_
        refine TL.run1 (pure_move rfl) rfl ?_
        refine TL.run1 (pure_sub rfl rfl (mkI64 (by omega) (by omega))) rfl ?_
        refine TL.appendZeros (g := g) (p := i) (zc := n + m - i) (n := n) (cap := cap) (xs := X) Ty.app34 Try.underlying3 Ty.zero74 rfl (show some _ = some _ from by rw [ite_self]; rfl) (castI (by omega)) (by repeat (first | exact List.Mem.head _ | apply List.Mem.tail)) (by omega) (by omega) (by omega) (by omega) rfl (fun g3 c3 hg3 => ?_)
        rw [show i + (n + m - i) = n + m by omega] at hg3 ⊢
        refine TL.run1 (pure_assign rfl) rfl ?_
        refine TL.nil' ?_
        refine TC.seq ?_
        refine TC.region ?_
        refine TL.run1 (pure_move rfl) rfl ?_
        refine TL.run1 (pure_move rfl) rfl ?_
        refine TL.run1 (pure_sliceV (l := i) (h := n + m) (m := c3) Ty.sl34 rfl rfl ⟨rfl, rfl⟩ rfl (by omega) (by omega) (by omega)) rfl ?_
        rw [if_neg (show ¬ c3 = i by omega)]
        refine TL.run1 (pure_move rfl) rfl ?_
        refine TL.copyRow (p := i) (k := m) (n := n + m) (n' := n + m) (cap := c3) (xs := X.take i ++ List.replicate (n + m - i) [.v (.int .i64 0), .v (.slice none 0 0), .v (.int .i64 0), .v (.int .i64 0), .v (.slice none 0 0), .v (.slice none 0 0), .v (.slice none 0 0)]) (src := ((V.drop 0).take m)) Ty.app34 rfl (by omega) (.part (b := 0) (k := m) (xs := V) (n := m) (cap := c2) rfl (by repeat (first | exact List.Mem.head _ | apply List.Mem.tail)) (by omega) (by omega) (by omega)) (by (show m = min _ _); omega) (by repeat (first | exact UpdR.here _ | apply UpdR.there)) (ins_len _ _ _ _ (by simp only [List.length_append, List.length_take, List.length_drop, List.length_replicate]; omega) (by simp only [List.length_append, List.length_take, List.length_drop, List.length_replicate]; omega)) (by simp only [List.length_append, List.length_take, List.length_drop, List.length_replicate]; omega) (by simp only [List.length_append, List.length_take, List.length_drop, List.length_replicate]; omega) rfl ?_
        refine TL.nil' ?_
        refine TC.seq ?_
        refine TC.drawTailN 8 Ty.follows (by kernel_rfl) (by kernel_rfl) ?_
        simp only [List.take_succ_cons, List.take_zero, List.drop_succ_cons, List.drop_zero]
        refine TD.run1 (pure_move rfl) rfl ?_
        refine TD.run1 (pure_move rfl) rfl ?_
        refine TD.run1 (pure_move rfl) rfl ?_
        refine TD.run1 (pure_add rfl rfl (mkI64 (by omega) (by omega))) rfl ?_
        refine TD.run1 (pure_sliceV (l := i + m) (h := n + m) (m := c3) Ty.sl34 rfl (castI (by omega)) ⟨rfl, rfl⟩ rfl (by omega) (by omega) (by omega)) rfl ?_
        rw [if_neg (show ¬ c3 = i + m by omega)]
        refine TD.run1 (pure_move rfl) rfl ?_
        refine TD.run1 (pure_move rfl) rfl ?_
        refine TD.run1 (pure_sliceV (l := i) (h := n) (m := cap) Ty.sl34 rfl rfl ⟨rfl, rfl⟩ rfl (by omega) (by omega) (by omega)) rfl ?_
        rw [if_neg (show ¬ cap = i by omega)]
        refine TD.nil ?_
        show TL _ _ _ _ _ _
        refine TL.copyRow (p := i + m) (k := n - i) (n' := n + m) (cap := c3) (src := (X.drop i).take (n - i)) Ty.app34 rfl (by omega) (.part (b := i) (k := n - i) (xs := X) (n := n) (cap := cap) rfl (by repeat (first | exact List.Mem.head _ | apply List.Mem.tail)) (by omega) (by omega) (by omega)) (by (show n - i = min _ _); omega) (by repeat (first | exact UpdR.here _ | apply UpdR.there)) (ins_len _ _ _ _ (by simp only [List.length_append, List.length_take, List.length_drop, List.length_replicate]; omega) (by simp only [List.length_append, List.length_take, List.length_drop, List.length_replicate]; omega)) (by simp only [List.length_append, List.length_take, List.length_drop, List.length_replicate]; omega) (by simp only [List.length_append, List.length_take, List.length_drop, List.length_replicate]; omega) rfl ?_
        refine TL.nil' ?_
        refine TC.seq ?_
        refine TC.region ?_
        refine TL.run1 (pure_move rfl) rfl ?_
        refine TL.run1 (pure_assign rfl) rfl ?_
        refine TL.nil' ?_
        refine TC.ret ?_
        refine then_ret ?_
        exact retRow (e := 74) (es := 7) rfl (by repeat (first | exact List.Mem.head _ | apply List.Mem.tail)) (by (try simp only [List.drop_zero]); rw [show V.take m = V from List.take_of_length_le (by omega)]; exact insM_grow X V i n m (by omega) (by omega) (by omega) [.v (.int .i64 0), .v (.slice none 0 0), .v (.int .i64 0), .v (.int .i64 0), .v (.slice none 0 0), .v (.slice none 0 0), .v (.slice none 0 0)])
      · try dsimp only at hc31
        refine TC.skip' ?_
        refine TC.seq ?_
        have hroom : n + m ≤ cap := by omega
        refine TC.region ?_
        refine TL.run1 (pure_move rfl) rfl ?_
        refine TL.run1 (pure_move rfl) rfl ?_
        refine TL.run1 (pure_move rfl) rfl ?_
        refine TL.run1 (pure_add rfl rfl (mkI64 (by omega) (by omega))) rfl ?_
        refine TL.run1 (pure_sliceV (l := 0) (h := n + m) (m := cap) Ty.sl34 rfl rfl (castI (by omega)) rfl (by omega) (by omega) (by omega)) rfl ?_
        rw [ite_self]
        refine TL.run1 (pure_assign rfl) rfl ?_
        refine TL.nil' ?_
        refine TC.seq ?_
        refine TC.seq ?_
        refine TC.region ?_
        refine TL.run1 (pure_move rfl) rfl ?_
        refine TL.run1 (pure_move rfl) rfl ?_
        refine TL.run1 (pure_move rfl) rfl ?_
        refine TL.run1 (pure_move rfl) rfl ?_
        refine TL.run1 (pure_add rfl rfl (mkI64 (by omega) (by omega))) rfl ?_
        refine TL.run1 (pure_sliceV (l := i + m) (h := n + m) (m := cap) Ty.sl34 rfl (castI (by omega)) ⟨rfl, rfl⟩ rfl (by omega) (by omega) (by omega)) rfl ?_
        rw [if_neg (show ¬ cap = i + m by omega)]
        refine TL.overlaps (g1 := g2) (n1 := m) (cap1 := c2) (g2 := g) (n2 := n) (cap2 := cap) (H1 := [.row (RowV g2 m c2) 74 7 V]) (H2 := [.row (RowV g n cap) 74 7 X]) Ty.sl34 (fun aa w v h => by rw [run_callFunc_extern Try.func59 (by kernel_rfl) (by kernel_rfl) (by kernel_rfl) (e := Extern.SlicesOverlaps.overlaps #[34, 34] #[4]) (by kernel_rfl), h]; rfl) rfl rfl (.left (.right .nil)) (by repeat (first | exact List.Mem.head _ | apply List.Mem.tail)) (by repeat (first | exact List.Mem.head _ | apply List.Mem.tail)) (by omega) (by omega) rfl ?_
        refine TL.run1 (pure_not rfl) rfl ?_
        refine TL.nil' ?_
        first | refine TC.condD rfl (fun hc68 => ?_) (fun hc68 => ?_) | refine TC.condN rfl (fun hc68 => ?_) (fun hc68 => ?_) | refine TC.cond rfl (fun hc68 => ?_) (fun hc68 => ?_)
        · try dsimp only at hc68
          refine TC.seq ?_
          refine TC.drawTailN 8 Ty.follows (by kernel_rfl) (by kernel_rfl) ?_
          simp only [List.take_succ_cons, List.take_zero, List.drop_succ_cons, List.drop_zero]
          refine TD.run1 (pure_move rfl) rfl ?_
          refine TD.run1 (pure_move rfl) rfl ?_
          refine TD.run1 (pure_move rfl) rfl ?_
          refine TD.run1 (pure_add rfl rfl (mkI64 (by omega) (by omega))) rfl ?_
          refine TD.run1 (pure_sliceV (l := i + m) (h := n + m) (m := cap) Ty.sl34 rfl (castI (by omega)) ⟨rfl, rfl⟩ rfl (by omega) (by omega) (by omega)) rfl ?_
          rw [if_neg (show ¬ cap = i + m by omega)]
          refine TD.run1 (pure_move rfl) rfl ?_
          refine TD.run1 (pure_move rfl) rfl ?_
          refine TD.run1 (pure_sliceV (l := i) (h := n + m) (m := cap) Ty.sl34 rfl rfl ⟨rfl, rfl⟩ rfl (by omega) (by omega) (by omega)) rfl ?_
          rw [if_neg (show ¬ cap = i by omega)]
          refine TD.nil ?_
          show TL _ _ _ _ _ _
          refine TL.copyRow (p := i + m) (k := n - i) (n' := n + m) (cap := cap) (src := (X.drop i).take (n - i)) Ty.app34 rfl (by omega) (.part (b := i) (k := n - i) (xs := X) (n := n) (cap := cap) rfl (by repeat (first | exact List.Mem.head _ | apply List.Mem.tail)) (by omega) (by omega) (by omega)) (by (show n - i = min _ _); omega) (by repeat (first | exact UpdR.here _ | apply UpdR.there)) (ins_len _ _ _ _ (by simp only [List.length_append, List.length_take, List.length_drop, List.length_replicate]; omega) (by omega)) (by omega) (by simp only [List.length_append, List.length_take, List.length_drop, List.length_replicate]; omega) rfl ?_
          refine TL.nil' ?_
          refine TC.seq ?_
          refine TC.region ?_
          refine TL.run1 (pure_move rfl) rfl ?_
          refine TL.run1 (pure_move rfl) rfl ?_
          refine TL.run1 (pure_sliceV (l := i) (h := n + m) (m := cap) Ty.sl34 rfl rfl ⟨rfl, rfl⟩ rfl (by omega) (by omega) (by omega)) rfl ?_
          rw [if_neg (show ¬ cap = i by omega)]
          refine TL.run1 (pure_move rfl) rfl ?_
          refine TL.copyRow (p := i) (k := m) (n' := n + m) (cap := cap) (src := ((V.drop 0).take m)) Ty.app34 rfl (by omega) (.part (b := 0) (k := m) (xs := V) (n := m) (cap := c2) rfl (by repeat (first | exact List.Mem.head _ | apply List.Mem.tail)) (by omega) (by omega) (by omega)) (by (show m = min _ _); omega) (by repeat (first | exact UpdR.here _ | apply UpdR.there)) (ins_len _ _ _ _ (by simp only [List.length_append, List.length_take, List.length_drop, List.length_replicate]; omega) (by simp only [List.length_append, List.length_take, List.length_drop, List.length_replicate]; omega)) (by simp only [List.length_append, List.length_take, List.length_drop, List.length_replicate]; omega) (by simp only [List.length_append, List.length_take, List.length_drop, List.length_replicate]; omega) rfl ?_
          refine TL.nil' ?_
          refine TC.seq ?_
          refine TC.region ?_
          refine TL.run1 (pure_move rfl) rfl ?_
          refine TL.run1 (pure_assign rfl) rfl ?_
          refine TL.nil' ?_
          refine TC.ret ?_
          refine then_ret ?_
          exact retRow (e := 74) (es := 7) rfl (by repeat (first | exact List.Mem.head _ | apply List.Mem.tail)) (by (try simp only [List.drop_zero]); rw [show V.take m = V from List.take_of_length_le (by omega), show X.drop (i + m + ((X.drop i).take (n - i)).length) = [] from List.drop_eq_nil_of_le (by rw [List.length_take, List.length_drop]; omega)]; exact insM_in X V i n m (X.take (i + m)) (by omega) (by omega) (by omega) (by rw [List.length_take]; omega) (by rw [List.take_take]; congr 1; omega))
        · try dsimp only at hc68
          exact absurd hc68 (by simp)
set_option maxRecDepth 100000 in
theorem insertGap_spec (X V : List (List D)) (g n cap g2 m c2 i : Nat) (hn : n = X.length) (hm : m = V.length) (hm1 : 1 ≤ m) (hcap : n ≤ cap) (hi : i ≤ n) (hgg : g ≠ g2) (hl : n + m ≤ 1000000) (hc2 : m ≤ c2) (hVe : ∀ x ∈ V, x.length = 7) (hgap : n < i + m) : CallD Try.prog 47 [.v (RowV g n cap), .v (.int .i64 (i : Int)), .v (RowV g2 m c2)] [.row (RowV g2 m c2) 74 7 V, .row (RowV g n cap) 74 7 X] (fun r H' => ∃ v, r = .v v ∧ H' = [.row v 74 7 (X.take i ++ V ++ X.drop i)]) := by
  refine CallD.enter (n := 95) (rs := [.tmp 6]) Try.func47 rfl Try.ntmps47 Try.results47 rfl (fun w F => ?_)
  refine TC.seq ?_
  refine TC.region ?_
  refine TL.run1 (pure_assign rfl) rfl ?_
  refine TL.nil' ?_
  refine TC.seq ?_
  refine TC.region ?_
  refine TL.run1 (pure_move rfl) rfl ?_
  refine TL.run1 (pure_move rfl) rfl ?_
  refine TL.run1 (pure_sliceV (l := i) (h := n) (m := cap) Ty.sl34 rfl rfl ⟨rfl, rfl⟩ rfl (by omega) (by omega) (by omega)) rfl ?_
  refine TL.nil' ?_
  refine TC.seq ?_
  refine TC.region ?_
  refine TL.run1 (pure_move rfl) rfl ?_
  refine TL.run1 (pure_lenV Ty.sl34 rfl) rfl ?_
  refine TL.run1 (pure_assign rfl) rfl ?_
  refine TL.nil' ?_
  refine TC.seq ?_
  refine TC.seq ?_
  refine TC.region ?_
  refine TL.run1 (pure_move rfl) rfl ?_
  refine TL.run1 (pure_eql rfl rfl) rfl ?_
  refine TL.nil' ?_
  first | refine TC.condD rfl (fun hc16 => ?_) (fun hc16 => ?_) | refine TC.condN rfl (fun hc16 => ?_) (fun hc16 => ?_) | refine TC.cond rfl (fun hc16 => ?_) (fun hc16 => ?_)
  · try dsimp only at hc16
    exact absurd hc16 (by omega)
  · try dsimp only at hc16
    refine TC.skip' ?_
    refine TC.seq ?_
    refine TC.region ?_
    refine TL.run1 (pure_move rfl) rfl ?_
    refine TL.run1 (pure_lenV Ty.sl34 rfl) rfl ?_
    refine TL.run1 (pure_assign rfl) rfl ?_
    refine TL.nil' ?_
    refine TC.seq ?_
    refine TC.seq ?_
    refine TC.region ?_
    refine TL.run1 (pure_move rfl) rfl ?_
    refine TL.run1 (pure_move rfl) rfl ?_
    refine TL.run1 (pure_eql rfl rfl) rfl ?_
    refine TL.nil' ?_
    first | refine TC.condD rfl (fun hc22 => ?_) (fun hc22 => ?_) | refine TC.condN rfl (fun hc22 => ?_) (fun hc22 => ?_) | refine TC.cond rfl (fun hc22 => ?_) (fun hc22 => ?_)
    · try dsimp only at hc22
      refine TC.frz 2 [.row (RowV g n cap) 74 7 X] (.cons _ (.cons_cons _ .slnil)) rfl (.rowS (v := RowV g2 m c2) ⟨(by repeat (first | exact List.Mem.head _ | apply List.Mem.tail)), fun x hx => by rcases List.mem_singleton.1 hx with rfl; intro gg h1 h2; exact hgg (by simpa [Blk.blk, Value.ownBlock] using h2.trans h1.symm)⟩ (by decide) hVe) ?_
      refine TC.seq ?_
      refine TC.region ?_
      refine TL.run1 (pure_move rfl) rfl ?_
      refine TL.run1 (pure_move rfl) rfl ?_
      refine TL.append (v := RowV g n cap) (xs := X) (ys := V) Ty.app34 rfl rfl (by intro _; exact UpdR.here _) (by omega) (by omega) rfl (fun v25 hv25 => ?_)
      refine TL.run1 (pure_assign rfl) rfl ?_
      refine TL.nil' ?_
      refine TC.ret ?_
      refine then_ret ?_
      exact retRow rfl (by repeat (first | exact List.Mem.head _ | apply List.Mem.tail)) (by rw [show i = X.length by omega]; simp)
    · try dsimp only at hc22
      refine TC.skip' ?_
      refine TC.seq ?_
      refine TC.seq ?_
      refine TC.region ?_
      refine TL.run1 (pure_move rfl) rfl ?_
      refine TL.run1 (pure_move rfl) rfl ?_
      refine TL.run1 (pure_add rfl rfl (mkI64 (by omega) (by omega))) rfl ?_
      refine TL.run1 (pure_move rfl) rfl ?_
      refine TL.run1 (pure_cap Ty.sl34 rfl) rfl ?_
      refine TL.run1 (pure_gtr rfl rfl) rfl ?_
      refine TL.nil' ?_
      first | refine TC.condD rfl (fun hc31 => ?_) (fun hc31 => ?_) | refine TC.condN rfl (fun hc31 => ?_) (fun hc31 => ?_) | refine TC.cond rfl (fun hc31 => ?_) (fun hc31 => ?_)
      · try dsimp only at hc31
        refine TC.seq ?_
        refine TC.region ?_
        refine TL.run1 (pure_move rfl) rfl ?_
        refine TL.run1 (pure_move rfl) rfl ?_
        refine TL.run1 (pure_sliceV (l := 0) (h := i) (m := cap) Ty.sl34 rfl rfl rfl rfl (by omega) (by omega) (by omega)) rfl ?_
        refine TL.run1 (pure_move rfl) rfl ?_
        refine TL.run1 (pure_move rfl) rfl ?_
        refine TL.run1 (pure_add rfl rfl (mkI64 (by omega) (by omega))) rfl ?_
        refine TL.run1 (pure_move rfl) rfl ?_
        refine TL.run1 (pure_sub rfl rfl (mkI64 (by omega) (by omega))) rfl ?_
        refine TL.appendZeros (g := g) (p := i) (zc := n + m - i) (n := n) (cap := cap) (xs := X) Ty.app34 Try.underlying3 Ty.zero74 rfl (show some _ = some _ from by rw [ite_self]; rfl) (castI (by omega)) (by repeat (first | exact List.Mem.head _ | apply List.Mem.tail)) (by omega) (by omega) (by omega) (by omega) rfl (fun g3 c3 hg3 => ?_)
        rw [show i + (n + m - i) = n + m by omega] at hg3 ⊢
        refine TL.run1 (pure_assign rfl) rfl ?_
        refine TL.nil' ?_
        refine TC.seq ?_
        refine TC.region ?_
        refine TL.run1 (pure_move rfl) rfl ?_
        refine TL.run1 (pure_move rfl) rfl ?_
        refine TL.run1 (pure_sliceV (l := i) (h := n + m) (m := c3) Ty.sl34 rfl rfl ⟨rfl, rfl⟩ rfl (by omega) (by omega) (by omega)) rfl ?_
        rw [if_neg (show ¬ c3 = i by omega)]
        refine TL.run1 (pure_move rfl) rfl ?_
        refine TL.copyRow (p := i) (k := m) (n := n + m) (n' := n + m) (cap := c3) (xs := X.take i ++ List.replicate (n + m - i) [.v (.int .i64 0), .v (.slice none 0 0), .v (.int .i64 0), .v (.int .i64 0), .v (.slice none 0 0), .v (.slice none 0 0), .v (.slice none 0 0)]) (src := ((V.drop 0).take m)) Ty.app34 rfl (by omega) (.part (b := 0) (k := m) (xs := V) (n := m) (cap := c2) rfl (by repeat (first | exact List.Mem.head _ | apply List.Mem.tail)) (by omega) (by omega) (by omega)) (by (show m = min _ _); omega) (by repeat (first | exact UpdR.here _ | apply UpdR.there)) (ins_len _ _ _ _ (by simp only [List.length_append, List.length_take, List.length_drop, List.length_replicate]; omega) (by simp only [List.length_append, List.length_take, List.length_drop, List.length_replicate]; omega)) (by simp only [List.length_append, List.length_take, List.length_drop, List.length_replicate]; omega) (by simp only [List.length_append, List.length_take, List.length_drop, List.length_replicate]; omega) rfl ?_
        refine TL.nil' ?_
        refine TC.seq ?_
        refine TC.drawTailN 8 Ty.follows (by kernel_rfl) (by kernel_rfl) ?_
        simp only [List.take_succ_cons, List.take_zero, List.drop_succ_cons, List.drop_zero]
        refine TD.run1 (pure_move rfl) rfl ?_
        refine TD.run1 (pure_move rfl) rfl ?_
        refine TD.run1 (pure_move rfl) rfl ?_
        refine TD.run1 (pure_add rfl rfl (mkI64 (by omega) (by omega))) rfl ?_
        refine TD.run1 (pure_sliceV (l := i + m) (h := n + m) (m := c3) Ty.sl34 rfl (castI (by omega)) ⟨rfl, rfl⟩ rfl (by omega) (by omega) (by omega)) rfl ?_
        rw [if_neg (show ¬ c3 = i + m by omega)]
        refine TD.run1 (pure_move rfl) rfl ?_
        refine TD.run1 (pure_move rfl) rfl ?_
        refine TD.run1 (pure_sliceV (l := i) (h := n) (m := cap) Ty.sl34 rfl rfl ⟨rfl, rfl⟩ rfl (by omega) (by omega) (by omega)) rfl ?_
        rw [if_neg (show ¬ cap = i by omega)]
        refine TD.nil ?_
        show TL _ _ _ _ _ _
        refine TL.copyRow (p := i + m) (k := n - i) (n' := n + m) (cap := c3) (src := (X.drop i).take (n - i)) Ty.app34 rfl (by omega) (.part (b := i) (k := n - i) (xs := X) (n := n) (cap := cap) rfl (by repeat (first | exact List.Mem.head _ | apply List.Mem.tail)) (by omega) (by omega) (by omega)) (by (show n - i = min _ _); omega) (by repeat (first | exact UpdR.here _ | apply UpdR.there)) (ins_len _ _ _ _ (by simp only [List.length_append, List.length_take, List.length_drop, List.length_replicate]; omega) (by simp only [List.length_append, List.length_take, List.length_drop, List.length_replicate]; omega)) (by simp only [List.length_append, List.length_take, List.length_drop, List.length_replicate]; omega) (by simp only [List.length_append, List.length_take, List.length_drop, List.length_replicate]; omega) rfl ?_
        refine TL.nil' ?_
        refine TC.seq ?_
        refine TC.region ?_
        refine TL.run1 (pure_move rfl) rfl ?_
        refine TL.run1 (pure_assign rfl) rfl ?_
        refine TL.nil' ?_
        refine TC.ret ?_
        refine then_ret ?_
        exact retRow (e := 74) (es := 7) rfl (by repeat (first | exact List.Mem.head _ | apply List.Mem.tail)) (by (try simp only [List.drop_zero]); rw [show V.take m = V from List.take_of_length_le (by omega)]; exact insM_grow X V i n m (by omega) (by omega) (by omega) [.v (.int .i64 0), .v (.slice none 0 0), .v (.int .i64 0), .v (.int .i64 0), .v (.slice none 0 0), .v (.slice none 0 0), .v (.slice none 0 0)])
      · try dsimp only at hc31
        refine TC.skip' ?_
        refine TC.seq ?_
        have hroom : n + m ≤ cap := by omega
        refine TC.region ?_
        refine TL.run1 (pure_move rfl) rfl ?_
        refine TL.run1 (pure_move rfl) rfl ?_
        refine TL.run1 (pure_move rfl) rfl ?_
        refine TL.run1 (pure_add rfl rfl (mkI64 (by omega) (by omega))) rfl ?_
        refine TL.run1 (pure_sliceV (l := 0) (h := n + m) (m := cap) Ty.sl34 rfl rfl (castI (by omega)) rfl (by omega) (by omega) (by omega)) rfl ?_
        rw [ite_self]
        refine TL.run1 (pure_assign rfl) rfl ?_
        refine TL.nil' ?_
        refine TC.seq ?_
        refine TC.seq ?_
        refine TC.region ?_
        refine TL.run1 (pure_move rfl) rfl ?_
        refine TL.run1 (pure_move rfl) rfl ?_
        refine TL.run1 (pure_move rfl) rfl ?_
        refine TL.run1 (pure_move rfl) rfl ?_
        refine TL.run1 (pure_add rfl rfl (mkI64 (by omega) (by omega))) rfl ?_
        refine TL.run1 (pure_sliceV (l := i + m) (h := n + m) (m := cap) Ty.sl34 rfl (castI (by omega)) ⟨rfl, rfl⟩ rfl (by omega) (by omega) (by omega)) rfl ?_
        rw [if_neg (show ¬ cap = i + m by omega)]
        refine TL.overlaps (g1 := g2) (n1 := m) (cap1 := c2) (g2 := g) (n2 := n) (cap2 := cap) (H1 := [.row (RowV g2 m c2) 74 7 V]) (H2 := [.row (RowV g n cap) 74 7 X]) Ty.sl34 (fun aa w v h => by rw [run_callFunc_extern Try.func59 (by kernel_rfl) (by kernel_rfl) (by kernel_rfl) (e := Extern.SlicesOverlaps.overlaps #[34, 34] #[4]) (by kernel_rfl), h]; rfl) rfl rfl (.left (.right .nil)) (by repeat (first | exact List.Mem.head _ | apply List.Mem.tail)) (by repeat (first | exact List.Mem.head _ | apply List.Mem.tail)) (by omega) (by omega) rfl ?_
        refine TL.run1 (pure_not rfl) rfl ?_
        refine TL.nil' ?_
        first | refine TC.condD rfl (fun hc68 => ?_) (fun hc68 => ?_) | refine TC.condN rfl (fun hc68 => ?_) (fun hc68 => ?_) | refine TC.cond rfl (fun hc68 => ?_) (fun hc68 => ?_)
        · try dsimp only at hc68
          refine TC.seq ?_
          refine TC.drawTailN 8 Ty.follows (by kernel_rfl) (by kernel_rfl) ?_
          simp only [List.take_succ_cons, List.take_zero, List.drop_succ_cons, List.drop_zero]
          refine TD.run1 (pure_move rfl) rfl ?_
          refine TD.run1 (pure_move rfl) rfl ?_
          refine TD.run1 (pure_move rfl) rfl ?_
          refine TD.run1 (pure_add rfl rfl (mkI64 (by omega) (by omega))) rfl ?_
          refine TD.run1 (pure_sliceV (l := i + m) (h := n + m) (m := cap) Ty.sl34 rfl (castI (by omega)) ⟨rfl, rfl⟩ rfl (by omega) (by omega) (by omega)) rfl ?_
          rw [if_neg (show ¬ cap = i + m by omega)]
          refine TD.run1 (pure_move rfl) rfl ?_
          refine TD.run1 (pure_move rfl) rfl ?_
          refine TD.run1 (pure_sliceV (l := i) (h := n + m) (m := cap) Ty.sl34 rfl rfl ⟨rfl, rfl⟩ rfl (by omega) (by omega) (by omega)) rfl ?_
          rw [if_neg (show ¬ cap = i by omega)]
          refine TD.nil ?_
          show TL _ _ _ _ _ _
          refine TL.copyGap (p := i + m) (k := n - i) (n := n) (cap := cap) (src := (X.drop i).take (n - i)) Ty.app34 rfl (by omega) (.part (b := i) (k := n - i) (xs := X) (n := n) (cap := cap) rfl (by repeat (first | exact List.Mem.head _ | apply List.Mem.tail)) (by omega) (by omega) (by omega)) (by (show n - i = min _ _); omega) (by repeat (first | exact UpdR.here _ | apply UpdR.there)) (by omega) (by simp only [List.length_append, List.length_take, List.length_drop, List.length_replicate]; omega) rfl ?_
          refine TL.nil' ?_
          refine TC.seq ?_
          refine TC.region ?_
          refine TL.run1 (pure_move rfl) rfl ?_
          refine TL.run1 (pure_move rfl) rfl ?_
          refine TL.run1 (pure_sliceV (l := i) (h := n + m) (m := cap) Ty.sl34 rfl rfl ⟨rfl, rfl⟩ rfl (by omega) (by omega) (by omega)) rfl ?_
          rw [if_neg (show ¬ cap = i by omega)]
          refine TL.run1 (pure_move rfl) rfl ?_
          refine TL.copyFill (p := i) (k := m) (n' := n + m) (cap := cap) (src := ((V.drop 0).take m)) (zs := (X.drop i).take (n - i)) Ty.app34 rfl (by omega) (.part (b := 0) (k := m) (xs := V) (n := m) (cap := c2) rfl (by repeat (first | exact List.Mem.head _ | apply List.Mem.tail)) (by omega) (by omega) (by omega)) (by (show m = min _ _); omega) (by repeat (first | exact UpdR.here _ | apply UpdR.there)) (by simp only [List.length_append, List.length_take, List.length_drop, List.length_replicate]; omega) (by omega) (by simp only [List.length_append, List.length_take, List.length_drop, List.length_replicate]; omega) rfl ?_
          refine TL.nil' ?_
          refine TC.seq ?_
          refine TC.region ?_
          refine TL.run1 (pure_move rfl) rfl ?_
          refine TL.run1 (pure_assign rfl) rfl ?_
          refine TL.nil' ?_
          refine TC.ret ?_
          refine then_ret ?_
          exact retRow (e := 74) (es := 7) rfl (by repeat (first | exact List.Mem.head _ | apply List.Mem.tail)) (by (try simp only [List.drop_zero]); rw [show V.take m = V from List.take_of_length_le (by omega), show (X.drop i).take (n - i) = X.drop i from List.take_of_length_le (by rw [List.length_drop]; omega)])
        · try dsimp only at hc68
          exact absurd hc68 (by simp)

theorem insertM_spec (X V : List (List D)) (v v2 : Value) (i : Nat) (hi : i ≤ X.length) (hX : X ≠ []) (hV : V ≠ []) (hl : X.length + V.length ≤ 1000000) (hVe : ∀ x ∈ V, x.length = 7) :
    CallD Try.prog 47 [.v v, .v (.int .i64 (i : Int)), .v v2] [.row v2 74 7 V, .row v 74 7 X] (fun r H' => ∃ v, r = .v v ∧ H' = [.row v 74 7 (X.take i ++ V ++ X.drop i)]) := by
  intro w F vs hvl hv hh hF
  obtain ⟨vals2, hown2, _⟩ := row_ok hh (List.mem_cons_self : Blk.row v2 74 7 V ∈ _)
  obtain ⟨vals, hown, _⟩ := row_ok hh (List.mem_cons_of_mem _ List.mem_cons_self : Blk.row v 74 7 X ∈ _)
  rcases hown2.2 with ⟨_, hn2⟩ | ⟨g2, c2, cur2, rfl, _, hg2, hle2, _⟩
  · exact absurd (List.length_eq_zero_iff.1 hn2) hV
  rcases hown.2 with ⟨_, hn⟩ | ⟨g, cap, cur, rfl, _, hg, hle, _⟩
  · exact absurd (List.length_eq_zero_iff.1 hn) hX
  · have hne : g ≠ g2 := fun he => (List.pairwise_cons.1 hh.apart).1 _ List.mem_cons_self g2 rfl (by rw [← he]; rfl)
    have hm1 : 1 ≤ V.length := List.length_pos_iff.2 hV
    rcases Nat.lt_or_ge X.length (i + V.length) with hgap | hgap
    · exact insertGap_spec X V g _ cap g2 _ c2 i rfl rfl hm1 hle hi hne hl hle2 hVe hgap w F vs hvl hv hh hF
    · exact insertIn_spec X V g _ cap g2 _ c2 i rfl rfl hm1 hle hi hne hl hle2 hVe hgap w F vs hvl hv hh hF
set_option maxRecDepth 100000 in
theorem insertZero0_spec (X : List (List D)) (g n cap g2 c2 i : Nat) (hn : n = X.length) (hcap : n ≤ cap) (hi : i ≤ n) (hl : n ≤ 1000000) : CallD Try.prog 47 [.v (RowV g n cap), .v (.int .i64 (i : Int)), .v (RowV g2 0 c2)] [.row (RowV g2 0 c2) 74 7 [], .row (RowV g n cap) 74 7 X] (fun r H' => ∃ v, r = .v v ∧ H' = [.row v 74 7 (X)]) := by
  refine CallD.enter (n := 95) (rs := [.tmp 6]) Try.func47 rfl Try.ntmps47 Try.results47 rfl (fun w F => ?_)
  refine TC.seq ?_
  refine TC.region ?_
  refine TL.run1 (pure_assign rfl) rfl ?_
  refine TL.nil' ?_
  refine TC.seq ?_
  refine TC.region ?_
  refine TL.run1 (pure_move rfl) rfl ?_
  refine TL.run1 (pure_move rfl) rfl ?_
  refine TL.run1 (pure_sliceV (l := i) (h := n) (m := cap) Ty.sl34 rfl rfl ⟨rfl, rfl⟩ rfl (by omega) (by omega) (by omega)) rfl ?_
  refine TL.nil' ?_
  refine TC.seq ?_
  refine TC.region ?_
  refine TL.run1 (pure_move rfl) rfl ?_
  refine TL.run1 (pure_lenV Ty.sl34 rfl) rfl ?_
  refine TL.run1 (pure_assign rfl) rfl ?_
  refine TL.nil' ?_
  refine TC.seq ?_
  refine TC.seq ?_
  refine TC.region ?_
  refine TL.run1 (pure_move rfl) rfl ?_
  refine TL.run1 (pure_eql rfl rfl) rfl ?_
  refine TL.nil' ?_
  first | refine TC.condD rfl (fun hc16 => ?_) (fun hc16 => ?_) | refine TC.condN rfl (fun hc16 => ?_) (fun hc16 => ?_) | refine TC.cond rfl (fun hc16 => ?_) (fun hc16 => ?_)
  · try dsimp only at hc16
    refine TC.seq ?_
    refine TC.region ?_
    refine TL.run1 (pure_move rfl) rfl ?_
    refine TL.run1 (pure_assign rfl) rfl ?_
    refine TL.nil' ?_
    refine TC.ret ?_
    refine then_ret ?_
    exact retRow rfl (by repeat (first | exact List.Mem.head _ | apply List.Mem.tail)) rfl
  · try dsimp only at hc16
    exact absurd rfl hc16
set_option maxRecDepth 100000 in
theorem insertNil0_spec (X : List (List D)) (g n cap i : Nat) (hn : n = X.length) (hcap : n ≤ cap) (hi : i ≤ n) (hl : n ≤ 1000000) : CallD Try.prog 47 [.v (RowV g n cap), .v (.int .i64 (i : Int)), .v (.slice none 0 0)] [.row (.slice none 0 0) 74 7 [], .row (RowV g n cap) 74 7 X] (fun r H' => ∃ v, r = .v v ∧ H' = [.row v 74 7 (X)]) := by
  refine CallD.enter (n := 95) (rs := [.tmp 6]) Try.func47 rfl Try.ntmps47 Try.results47 rfl (fun w F => ?_)
  refine TC.seq ?_
  refine TC.region ?_
  refine TL.run1 (pure_assign rfl) rfl ?_
  refine TL.nil' ?_
  refine TC.seq ?_
  refine TC.region ?_
  refine TL.run1 (pure_move rfl) rfl ?_
  refine TL.run1 (pure_move rfl) rfl ?_
  refine TL.run1 (pure_sliceV (l := i) (h := n) (m := cap) Ty.sl34 rfl rfl ⟨rfl, rfl⟩ rfl (by omega) (by omega) (by omega)) rfl ?_
  refine TL.nil' ?_
  refine TC.seq ?_
  refine TC.region ?_
  refine TL.run1 (pure_move rfl) rfl ?_
  refine TL.run1 (pure_len_nil Ty.sl34 rfl) rfl ?_
  refine TL.run1 (pure_assign rfl) rfl ?_
  refine TL.nil' ?_
  refine TC.seq ?_
  refine TC.seq ?_
  refine TC.region ?_
  refine TL.run1 (pure_move rfl) rfl ?_
  refine TL.run1 (pure_eql rfl rfl) rfl ?_
  refine TL.nil' ?_
  first | refine TC.condD rfl (fun hc16 => ?_) (fun hc16 => ?_) | refine TC.condN rfl (fun hc16 => ?_) (fun hc16 => ?_) | refine TC.cond rfl (fun hc16 => ?_) (fun hc16 => ?_)
  · try dsimp only at hc16
    refine TC.seq ?_
    refine TC.region ?_
    refine TL.run1 (pure_move rfl) rfl ?_
    refine TL.run1 (pure_assign rfl) rfl ?_
    refine TL.nil' ?_
    refine TC.ret ?_
    refine then_ret ?_
    exact retRow rfl (by repeat (first | exact List.Mem.head _ | apply List.Mem.tail)) rfl
  · try dsimp only at hc16
    exact absurd rfl hc16

theorem insertAll_spec (X V : List (List D)) (v v2 : Value) (i : Nat) (hi : i ≤ X.length) (hX : X ≠ []) (hl : X.length + V.length ≤ 1000000) (hVe : ∀ x ∈ V, x.length = 7) :
    CallD Try.prog 47 [.v v, .v (.int .i64 (i : Int)), .v v2] [.row v2 74 7 V, .row v 74 7 X] (fun r H' => ∃ v, r = .v v ∧ H' = [.row v 74 7 (X.take i ++ V ++ X.drop i)]) := by
  by_cases hV : V = []
  · subst hV
    intro w F vs hvl hv hh hF
    obtain ⟨vals2, hown2, _⟩ := row_ok hh (List.mem_cons_self : Blk.row v2 74 7 [] ∈ _)
    obtain ⟨vals, hown, _⟩ := row_ok hh (List.mem_cons_of_mem _ List.mem_cons_self : Blk.row v 74 7 X ∈ _)
    rw [List.append_nil, List.take_append_drop]
    have hl' : X.length ≤ 1000000 := by simpa using hl
    rcases hown.2 with ⟨_, hn⟩ | ⟨g, cap, cur, rfl, _, hg, hle, _⟩
    · exact absurd (List.length_eq_zero_iff.1 hn) hX
    rcases hown2.2 with ⟨rfl, _⟩ | ⟨g2, c2, cur2, rfl, _, hg2, hle2, _⟩
    · exact insertNil0_spec X g _ cap i rfl hle hi hl' w F vs hvl hv hh hF
    · exact insertZero0_spec X g _ cap g2 c2 i rfl hle hi hl' w F vs hvl hv hh hF
  · exact insertM_spec X V v v2 i hi hX hV hl hVe
end Go.Ob
