import Derived.Test.YtcmkgijekibdaaaP3
import Derived.Test.YtcmkgijekibdaaaObU
set_option linter.unusedVariables false
set_option linter.unusedSimpArgs false
namespace Go.Ob
open Go.Proofs
/-! ### set, clear by place -/
theorem lb_split (l : List (Int × Int)) (h : Inc (keysP l)) (key : Int) : (∀ p ∈ l.take (lbI (keysP l) key), p.1 < key) ∧ (∀ p ∈ l.drop (lbI (keysP l) key), key ≤ p.1) := by
  have e : lbI (keysP l) key = (l.takeWhile (fun p => decide (p.1 < key))).length := by
    unfold lbI keysP
    rw [List.takeWhile_map, List.length_map]
    rfl
  have e1 : l.take (lbI (keysP l) key) = l.takeWhile (fun p => decide (p.1 < key)) := by
    rw [e]
    exact (List.prefix_iff_eq_take.1 (List.takeWhile_prefix _)).symm
  have e2 : l.drop (lbI (keysP l) key) = l.dropWhile (fun p => decide (p.1 < key)) := by
    have h1 := List.takeWhile_append_dropWhile (p := fun p => decide (p.1 < key)) (l := l)
    have h2 := List.take_append_drop (lbI (keysP l) key) l
    rw [e1] at h2
    exact List.append_cancel_left (h2.trans h1.symm)
  exact ⟨by rw [e1]; exact take_lt key l, by rw [e2]; exact drop_ge h key⟩
def setB (l : List (Int × Int)) (key value : Int) : List (Int × Int) :=
  if inI (keysP l) key = true then l.set (lbI (keysP l) key) (key, value) else l.take (lbI (keysP l) key) ++ (key, value) :: l.drop (lbI (keysP l) key)
def clearB (l : List (Int × Int)) (key : Int) : List (Int × Int) :=
  if inI (keysP l) key = true then l.take (lbI (keysP l) key) ++ l.drop (lbI (keysP l) key + 1) else l
theorem in_at {l : List (Int × Int)} {key : Int} (hi : inI (keysP l) key = true) : lbI (keysP l) key < l.length ∧ (pAt l (lbI (keysP l) key)).1 = key := by
  have h := of_decide_eq_true hi
  rw [keysP_len] at h
  refine ⟨h.1, ?_⟩
  have := h.2
  rwa [kAt_keysP _ _ h.1] at this
theorem mid_inc {A B : List (Int × Int)} {key value : Int} (h : Inc (keysP (A ++ B))) (hA : ∀ p ∈ A, p.1 < key) (hB : ∀ p ∈ B, key < p.1) : Inc (keysP (A ++ (key, value) :: B)) := by
  obtain ⟨i1, i2, i3⟩ := Inc.append.1 h
  refine Inc.append.2 ⟨i1, Inc.cons.2 ⟨hB, i2⟩, fun p hp q hq => ?_⟩
  rcases List.mem_cons.1 hq with rfl | hq
  · exact hA p hp
  · exact i3 p hp q hq
theorem parts {l : List (Int × Int)} (h : Inc (keysP l)) (key : Int) : (inI (keysP l) key = true → ∃ A B v, l = A ++ (key, v) :: B ∧ A.length = lbI (keysP l) key ∧ (∀ p ∈ A, p.1 < key) ∧ ∀ p ∈ B, key < p.1) ∧
    (inI (keysP l) key = false → ∃ A B, l = A ++ B ∧ A.length = lbI (keysP l) key ∧ (∀ p ∈ A, p.1 < key) ∧ ∀ p ∈ B, key < p.1) := by
  obtain ⟨h1, h2⟩ := lb_split l h key
  have hl := lbI_le (keysP l) key
  rw [keysP_len] at hl
  constructor
  · intro hi
    obtain ⟨a, b⟩ := in_at hi
    have hd := drop_P l (lbI (keysP l) key) (by omega) (by omega)
    rw [show ((lbI (keysP l) key : Nat) : Int).toNat = lbI (keysP l) key by omega, show ((lbI (keysP l) key : Int) + 1).toNat = lbI (keysP l) key + 1 by omega] at hd
    have hl2 : l = l.take (lbI (keysP l) key) ++ pAt l (lbI (keysP l) key) :: l.drop (lbI (keysP l) key + 1) := by rw [← hd, List.take_append_drop]
    refine ⟨l.take (lbI (keysP l) key), l.drop (lbI (keysP l) key + 1), (pAt l (lbI (keysP l) key)).2, ?_, by rw [List.length_take]; omega, h1, fun p hp => ?_⟩
    · have eb : (key, (pAt l (lbI (keysP l) key)).2) = pAt l (lbI (keysP l) key) := Prod.ext b.symm rfl
      rw [eb]; exact hl2
    · rw [hl2] at h
      have := (Inc.cons'.1 (Inc.append.1 h).2.1).1 p hp
      omega
  · intro hi
    refine ⟨l.take (lbI (keysP l) key), l.drop (lbI (keysP l) key), (List.take_append_drop _ _).symm, by rw [List.length_take]; omega, h1, fun p hp => ?_⟩
    have h3 := h2 p hp
    rcases Int.lt_or_eq_of_le h3 with h | he
    · exact h
    · exfalso
      have hn := of_decide_eq_false hi
      rw [keysP_len] at hn
      obtain ⟨j, hj, rfl⟩ := List.getElem_of_mem hp
      rw [List.length_drop] at hj
      rw [List.getElem_drop] at he
      have hlt : lbI (keysP l) key < l.length := by omega
      refine hn ⟨hlt, ?_⟩
      rw [kAt_keysP _ _ hlt]
      have hge := h2 (l[lbI (keysP l) key]) (by rw [List.drop_eq_getElem_cons hlt]; exact List.mem_cons_self)
      have e1 : pAt l (lbI (keysP l) key) = l[lbI (keysP l) key] := by simp [pAt, hlt]
      rw [e1]
      rcases Nat.eq_zero_or_pos j with rfl | hj0
      · exact he.symm
      · have h5 := Inc.lt (ks := keysP l) (i := lbI (keysP l) key) (j := lbI (keysP l) key + j) (by assumption) (by omega) (by rw [keysP_len]; omega)
        rw [kAt_keysP _ _ hlt, kAt_keysP _ _ (by omega), e1] at h5
        have e2 : pAt l ((lbI (keysP l) key + j : Nat) : Int) = l[lbI (keysP l) key + j] := by
          unfold pAt
          rw [Int.toNat_natCast]
          simp [show lbI (keysP l) key + j < l.length by omega]
        rw [e2] at h5
        omega
theorem setB_eq {l : List (Int × Int)} (h : Inc (keysP l)) (key value : Int) : setB l key value = setP l key value := by
  obtain ⟨p1, p2⟩ := parts h key
  have hs := setP_inc h key value
  unfold setB
  cases hi : inI (keysP l) key with
  | true =>
    obtain ⟨A, B, v, e, ea, hA, hB⟩ := p1 hi
    rw [if_pos rfl, ← ea]
    have e1 : l.set A.length (key, value) = A ++ (key, value) :: B := by rw [e]; simp
    rw [e1]
    rw [e] at h
    obtain ⟨i1, i2, i3⟩ := Inc.append.1 h
    refine lookP_ext _ _ (mid_inc (Inc.append.2 ⟨i1, (Inc.cons.1 i2).2, fun p hp q hq => i3 p hp q (by simp [hq])⟩) hA hB) hs fun k => ?_
    rw [setP_look, e, lookP_append, lookP_append, lookP_cons, lookP_cons]
    by_cases hk : k = key
    · rw [if_pos hk, hk, lookP_none A key fun p hp => by have := hA p hp; omega]; simp
    · rw [if_neg hk, if_neg (fun h => hk h.symm), if_neg (fun h => hk h.symm)]
  | false =>
    obtain ⟨A, B, e, ea, hA, hB⟩ := p2 hi
    rw [if_neg (by simp), ← ea]
    have e1 : l.take A.length ++ (key, value) :: l.drop A.length = A ++ (key, value) :: B := by rw [e]; simp
    rw [e1]
    rw [e] at h
    refine lookP_ext _ _ (mid_inc h hA hB) hs fun k => ?_
    rw [setP_look, e, lookP_append, lookP_append, lookP_cons]
    by_cases hk : k = key
    · rw [if_pos hk, hk, lookP_none A key fun p hp => by have := hA p hp; omega]; simp
    · rw [if_neg hk, if_neg (fun h => hk h.symm)]
theorem clearB_eq {l : List (Int × Int)} (h : Inc (keysP l)) (key : Int) : clearB l key = clearP l key := by
  obtain ⟨p1, p2⟩ := parts h key
  have hs := clearP_inc h key
  unfold clearB
  cases hi : inI (keysP l) key with
  | true =>
    obtain ⟨A, B, v, e, ea, hA, hB⟩ := p1 hi
    rw [if_pos rfl, ← ea]
    have e1 : l.take A.length ++ l.drop (A.length + 1) = A ++ B := by rw [e]; simp
    rw [e1]
    rw [e] at h
    obtain ⟨i1, i2, i3⟩ := Inc.append.1 h
    refine lookP_ext _ _ (Inc.append.2 ⟨i1, (Inc.cons.1 i2).2, fun p hp q hq => i3 p hp q (by simp [hq])⟩) hs fun k => ?_
    rw [clearP_look, e, lookP_append, lookP_append, lookP_cons]
    by_cases hk : k = key
    · rw [if_pos hk, hk, lookP_none A key (fun p hp => by have := hA p hp; omega), lookP_none B key (fun p hp => by have := hB p hp; omega)]; rfl
    · rw [if_neg hk, if_neg (fun h => hk h.symm)]
  | false =>
    obtain ⟨A, B, e, ea, hA, hB⟩ := p2 hi
    rw [if_neg (by simp)]
    refine lookP_ext _ _ h hs fun k => ?_
    rw [clearP_look]
    by_cases hk : k = key
    · rw [if_pos hk, hk, e, lookP_append, lookP_none A key (fun p hp => by have := hA p hp; omega), lookP_none B key (fun p hp => by have := hB p hp; omega)]; rfl
    · rw [if_neg hk]
end Go.Ob
set_option linter.unusedVariables false
set_option linter.unusedSimpArgs false
namespace Go.Ob
open Go.Proofs

theorem ins_grow {α : Type} (X : List α) (i n : Nat) (hn : n = X.length) (hi : i < n) (kv z : α) :
    ((((X.take i ++ List.replicate (n + 1 - i) z).take i ++ [kv] ++ (X.take i ++ List.replicate (n + 1 - i) z).drop (i + [kv].length)).take (i + 1) ++ (X.drop i).take (n - i) ++ ((X.take i ++ List.replicate (n + 1 - i) z).take i ++ [kv] ++ (X.take i ++ List.replicate (n + 1 - i) z).drop (i + [kv].length)).drop (i + 1 + ((X.drop i).take (n - i)).length))) = X.take i ++ [kv] ++ X.drop i := by
  have l1 : (X.take i).length = i := by rw [List.length_take]; omega
  have e1 : (X.take i ++ List.replicate (n + 1 - i) z).take i = X.take i := by
    rw [List.take_append, l1, List.take_of_length_le (by omega), Nat.sub_self, List.take_zero, List.append_nil]
  have e2 : (X.take i ++ List.replicate (n + 1 - i) z).drop (i + [kv].length) = List.replicate (n - i) z := by
    rw [List.drop_append, l1, List.drop_eq_nil_of_le (by rw [l1]; simp), List.nil_append, List.length_singleton, List.drop_replicate]
    congr 1; omega
  have e3 : (X.drop i).take (n - i) = X.drop i := List.take_of_length_le (by rw [List.length_drop]; omega)
  have l2 : (X.take i ++ [kv]).length = i + 1 := by rw [List.length_append, l1]; rfl
  rw [e1, e2, e3]
  have e4 : (X.take i ++ [kv] ++ List.replicate (n - i) z).take (i + 1) = X.take i ++ [kv] := by
    rw [List.take_append, l2, List.take_of_length_le (by omega), Nat.sub_self, List.take_zero, List.append_nil]
  have e5 : (X.take i ++ [kv] ++ List.replicate (n - i) z).drop (i + 1 + (X.drop i).length) = [] := List.drop_eq_nil_of_le (by rw [List.length_append, l2, List.length_replicate, List.length_drop]; omega)
  rw [e4, e5, List.append_nil]
theorem ins_in {α : Type} (X : List α) (i n : Nat) (hn : n = X.length) (hi : i < n) (kv : α) :
    ((X.take (i + 1) ++ (X.drop i).take (n - i) ++ X.drop (i + 1 + ((X.drop i).take (n - i)).length)).take i ++ [kv] ++ (X.take (i + 1) ++ (X.drop i).take (n - i) ++ X.drop (i + 1 + ((X.drop i).take (n - i)).length)).drop (i + [kv].length)) = X.take i ++ [kv] ++ X.drop i := by
  have e3 : (X.drop i).take (n - i) = X.drop i := List.take_of_length_le (by rw [List.length_drop]; omega)
  have e5 : X.drop (i + 1 + (X.drop i).length) = [] := List.drop_eq_nil_of_le (by rw [List.length_drop]; omega)
  have l1 : (X.take (i + 1)).length = i + 1 := by rw [List.length_take]; omega
  rw [e3, e5, List.append_nil]
  have e1 : (X.take (i + 1) ++ X.drop i).take i = X.take i := by
    rw [List.take_append, List.take_take, l1, show min i (i + 1) = i by omega, show i - (i + 1) = 0 by omega, List.take_zero, List.append_nil]
  have e2 : (X.take (i + 1) ++ X.drop i).drop (i + [kv].length) = X.drop i := by
    rw [List.length_singleton, List.drop_append, l1, List.drop_eq_nil_of_le (by omega), Nat.sub_self, List.nil_append, List.drop_zero]
  rw [e1, e2]
theorem ins_len {α : Type} (X S : List α) (p n : Nat) (hn : n = max X.length (p + S.length)) (hp : p ≤ X.length) : n = (X.take p ++ S ++ X.drop (p + S.length)).length := by
  simp only [List.length_append, List.length_take, List.length_drop]; omega
set_option maxRecDepth 100000 in
theorem sClone_spec (l : List (Int × Int)) (hl : l.length ≤ 1000000) : CallD Try.prog 88 [.sl 2 (encP l)] [] (fun r H' => ∃ v, r = .v v ∧ H' = [.row v 38 2 (encP l)]) := by
  refine CallD.enter (n := 8) (rs := [.tmp 2]) Try.func88 rfl Try.ntmps88 Try.results88 rfl (fun w F => ?_)
  have hk := encP_len l
  refine TC.seq ?_; refine TC.region ?_; refine TL.run1 (pure_assign rfl) rfl ?_; refine TL.nil' ?_; refine TC.seq ?_; refine TC.seq ?_; refine TC.region ?_; refine TL.run1 (pure_move rfl) rfl ?_
  refine TL.eqlNil Try.underlying26 rfl rfl rfl (fun b hb => ?_)
  refine TL.nil' ?_
  first | refine TC.condD rfl (fun hc4 => ?_) (fun hc4 => ?_) | refine TC.condN rfl (fun hc4 => ?_) (fun hc4 => ?_) | refine TC.cond rfl (fun hc4 => ?_) (fun hc4 => ?_)
  · try dsimp only at hc4
    refine TC.nilrow 38 2 ?_; refine TC.seq ?_; refine TC.region ?_; refine TL.run1 (pure_assign rfl) rfl ?_; refine TL.nil' ?_; refine TC.ret ?_; refine then_ret ?_
    exact retRow rfl (by repeat (first | exact List.Mem.head _ | apply List.Mem.tail)) (hb hc4).symm
  · try dsimp only at hc4
    refine TC.skip' ?_; refine TC.seq ?_; refine TC.region ?_
    refine TL.buildRow (xs := []) (ys := []) Ty.app26 (by decide) rfl rfl .nil rfl (fun v5 hv5 => ?_)
    refine TL.run1 (pure_move rfl) rfl ?_
    refine TL.append Ty.app26 rfl rfl (by intro _; repeat (first | exact UpdR.here _ | apply UpdR.there)) (by simp only [List.length_append, List.length_cons, List.length_nil]; omega) (by simp only [List.length_append, List.length_cons, List.length_nil]; omega) rfl (fun v7 hv7 => ?_)
    refine TL.run1 (pure_assign rfl) rfl ?_; refine TL.nil' ?_; refine TC.ret ?_
    exact retRow rfl (by repeat (first | exact List.Mem.head _ | apply List.Mem.tail)) rfl
set_option maxRecDepth 100000 in
theorem Clone_spec (l : List (Int × Int)) (hl : l.length ≤ 1000000) : CallD Try.prog 75 [.sl 2 (encP l)] [] (fun r H' => ∃ v, r = .v v ∧ H' = [.row v 38 2 (encP l)]) := by
  refine CallD.enter (n := 5) (rs := [.tmp 2]) Try.func75 rfl Try.ntmps75 Try.results75 rfl (fun w F => ?_)
  refine TC.seq ?_; refine TC.region ?_; refine TL.run1 (pure_assign rfl) rfl ?_; refine TL.nil' ?_; refine TC.seq ?_; refine TC.region ?_; refine TL.run1 (pure_move rfl) rfl ?_; refine TL.callD (H1 := []) (H2 := _) (SplitR.none _) (sClone_spec l hl) (.cons rfl .nil) Try.call88 (fun t ht => by cases ht; exact of_decide_eq_true rfl) ?_
  rintro r1 H1 ⟨v1, rfl, rfl⟩
  show TL _ _ _ _ _ [Blk.row v1 38 2 (encP l)]
  refine TL.run1 (pure_assign rfl) rfl ?_; refine TL.nil' ?_; refine TC.ret ?_
  exact retRow rfl (by repeat (first | exact List.Mem.head _ | apply List.Mem.tail)) rfl
set_option maxRecDepth 100000 in
theorem insertNil_spec (g2 c2 : Nat) (key value : Int) (hc2 : 1 ≤ c2) : CallD Try.prog 83 [.v (.slice none 0 0), .v (.int .i64 0), .v (RowV g2 1 c2)] [.row (RowV g2 1 c2) 38 2 [[D.v (.int .i64 key), .v (.int .i64 value)]], .row (.slice none 0 0) 38 2 []] (fun r H' => ∃ v, r = .v v ∧ H' = [.row v 38 2 ([[D.v (.int .i64 key), .v (.int .i64 value)]])]) := by
  refine CallD.enter (n := 95) (rs := [.tmp 6]) Try.func83 rfl Try.ntmps83 Try.results83 rfl (fun w F => ?_)
  refine TC.seq ?_; refine TC.region ?_; refine TL.run1 (pure_assign rfl) rfl ?_; refine TL.nil' ?_; refine TC.seq ?_; refine TC.region ?_; refine TL.run1 (pure_move rfl) rfl ?_; refine TL.run1 (pure_move rfl) rfl ?_; refine TL.run1 (pure_sliceNil Ty.sl26 rfl rfl) rfl ?_; refine TL.nil' ?_; refine TC.seq ?_; refine TC.region ?_; refine TL.run1 (pure_move rfl) rfl ?_; refine TL.run1 (pure_lenV Ty.sl26 rfl) rfl ?_; refine TL.run1 (pure_assign rfl) rfl ?_; refine TL.nil' ?_; refine TC.seq ?_; refine TC.seq ?_; refine TC.region ?_; refine TL.run1 (pure_move rfl) rfl ?_; refine TL.run1 (pure_eql rfl rfl) rfl ?_; refine TL.nil' ?_
  first | refine TC.condD rfl (fun hc16 => ?_) (fun hc16 => ?_) | refine TC.condN rfl (fun hc16 => ?_) (fun hc16 => ?_) | refine TC.cond rfl (fun hc16 => ?_) (fun hc16 => ?_)
  · try dsimp only at hc16
    exact absurd hc16 (by simp)
  · try dsimp only at hc16
    refine TC.skip' ?_; refine TC.seq ?_; refine TC.region ?_; refine TL.run1 (pure_move rfl) rfl ?_; refine TL.run1 (pure_len_nil Ty.sl26 rfl) rfl ?_; refine TL.run1 (pure_assign rfl) rfl ?_; refine TL.nil' ?_; refine TC.seq ?_; refine TC.seq ?_; refine TC.region ?_; refine TL.run1 (pure_move rfl) rfl ?_; refine TL.run1 (pure_move rfl) rfl ?_; refine TL.run1 (pure_eql rfl rfl) rfl ?_; refine TL.nil' ?_
    first | refine TC.condD rfl (fun hc22 => ?_) (fun hc22 => ?_) | refine TC.condN rfl (fun hc22 => ?_) (fun hc22 => ?_) | refine TC.cond rfl (fun hc22 => ?_) (fun hc22 => ?_)
    · try dsimp only at hc22
      refine TC.frz 2 [.row (.slice none 0 0) 38 2 []] (.cons _ (.cons_cons _ .slnil)) rfl (.rowS (v := RowV g2 1 c2) ⟨(by repeat (first | exact List.Mem.head _ | apply List.Mem.tail)), fun x hx => by rcases List.mem_singleton.1 hx with rfl; intro gg h1 h2; simp [Blk.blk, Value.ownBlock] at h2⟩ (by decide) (by simp)) ?_; refine TC.seq ?_; refine TC.region ?_; refine TL.run1 (pure_move rfl) rfl ?_; refine TL.run1 (pure_move rfl) rfl ?_
      refine TL.append (xs := []) (ys := [[D.v (.int .i64 key), .v (.int .i64 value)]]) Ty.app26 rfl rfl (by intro _; exact UpdR.here _) (by simp) (by simp) rfl (fun v25 hv25 => ?_)
      refine TL.run1 (pure_assign rfl) rfl ?_; refine TL.nil' ?_; refine TC.ret ?_; refine then_ret ?_
      exact retRow rfl (by repeat (first | exact List.Mem.head _ | apply List.Mem.tail)) rfl
    · try dsimp only at hc22
      exact absurd rfl hc22
set_option maxRecDepth 100000 in
theorem insert_spec (l : List (Int × Int)) (g n cap g2 c2 i : Nat) (key value : Int) (hn : n = l.length) (hcap : n ≤ cap) (hi : i ≤ n) (hgg : g ≠ g2) (hl : l.length ≤ 1000000) (hc2 : 1 ≤ c2) : CallD Try.prog 83 [.v (RowV g n cap), .v (.int .i64 (i : Int)), .v (RowV g2 1 c2)] [.row (RowV g2 1 c2) 38 2 [[D.v (.int .i64 key), .v (.int .i64 value)]], .row (RowV g n cap) 38 2 (encP l)] (fun r H' => ∃ v, r = .v v ∧ H' = [.row v 38 2 ((encP l).take i ++ [[D.v (.int .i64 key), .v (.int .i64 value)]] ++ (encP l).drop i)]) := by
  refine CallD.enter (n := 95) (rs := [.tmp 6]) Try.func83 rfl Try.ntmps83 Try.results83 rfl (fun w F => ?_)
  have hk := encP_len l
  refine TC.seq ?_; refine TC.region ?_; refine TL.run1 (pure_assign rfl) rfl ?_; refine TL.nil' ?_; refine TC.seq ?_; refine TC.region ?_; refine TL.run1 (pure_move rfl) rfl ?_; refine TL.run1 (pure_move rfl) rfl ?_; refine TL.run1 (pure_sliceV (l := i) (h := n) (m := cap) Ty.sl26 rfl rfl ⟨rfl, rfl⟩ rfl (by omega) (by omega) (by omega)) rfl ?_; refine TL.nil' ?_; refine TC.seq ?_; refine TC.region ?_; refine TL.run1 (pure_move rfl) rfl ?_; refine TL.run1 (pure_lenV Ty.sl26 rfl) rfl ?_; refine TL.run1 (pure_assign rfl) rfl ?_; refine TL.nil' ?_; refine TC.seq ?_; refine TC.seq ?_; refine TC.region ?_; refine TL.run1 (pure_move rfl) rfl ?_; refine TL.run1 (pure_eql rfl rfl) rfl ?_; refine TL.nil' ?_
  first | refine TC.condD rfl (fun hc16 => ?_) (fun hc16 => ?_) | refine TC.condN rfl (fun hc16 => ?_) (fun hc16 => ?_) | refine TC.cond rfl (fun hc16 => ?_) (fun hc16 => ?_)
  · try dsimp only at hc16
    exact absurd hc16 (by simp)
  · try dsimp only at hc16
    refine TC.skip' ?_; refine TC.seq ?_; refine TC.region ?_; refine TL.run1 (pure_move rfl) rfl ?_; refine TL.run1 (pure_lenV Ty.sl26 rfl) rfl ?_; refine TL.run1 (pure_assign rfl) rfl ?_; refine TL.nil' ?_; refine TC.seq ?_; refine TC.seq ?_; refine TC.region ?_; refine TL.run1 (pure_move rfl) rfl ?_; refine TL.run1 (pure_move rfl) rfl ?_; refine TL.run1 (pure_eql rfl rfl) rfl ?_; refine TL.nil' ?_
    first | refine TC.condD rfl (fun hc22 => ?_) (fun hc22 => ?_) | refine TC.condN rfl (fun hc22 => ?_) (fun hc22 => ?_) | refine TC.cond rfl (fun hc22 => ?_) (fun hc22 => ?_)
    · try dsimp only at hc22
      refine TC.frz 2 [.row (RowV g n cap) 38 2 (encP l)] (.cons _ (.cons_cons _ .slnil)) rfl (.rowS (v := RowV g2 1 c2) ⟨(by repeat (first | exact List.Mem.head _ | apply List.Mem.tail)), fun x hx => by rcases List.mem_singleton.1 hx with rfl; intro gg h1 h2; exact hgg (by simpa [Blk.blk, Value.ownBlock] using h2.trans h1.symm)⟩ (by decide) (by simp)) ?_; refine TC.seq ?_; refine TC.region ?_; refine TL.run1 (pure_move rfl) rfl ?_; refine TL.run1 (pure_move rfl) rfl ?_
      refine TL.append (v := RowV g n cap) (xs := (encP l)) (ys := [[D.v (.int .i64 key), .v (.int .i64 value)]]) Ty.app26 rfl rfl (by intro _; exact UpdR.here _) (by simp only [List.length_cons, List.length_nil]; omega) (by simp only [List.length_cons, List.length_nil]; omega) rfl (fun v25 hv25 => ?_)
      refine TL.run1 (pure_assign rfl) rfl ?_; refine TL.nil' ?_; refine TC.ret ?_; refine then_ret ?_
      exact retRow rfl (by repeat (first | exact List.Mem.head _ | apply List.Mem.tail)) (by rw [show i = (encP l).length by omega]; simp)
    · try dsimp only at hc22
      refine TC.skip' ?_; refine TC.seq ?_; refine TC.seq ?_; refine TC.region ?_; refine TL.run1 (pure_move rfl) rfl ?_; refine TL.run1 (pure_move rfl) rfl ?_; refine TL.run1 (pure_add rfl rfl (mkI64 (by omega) (by omega))) rfl ?_; refine TL.run1 (pure_move rfl) rfl ?_; refine TL.run1 (pure_cap Ty.sl26 rfl) rfl ?_; refine TL.run1 (pure_gtr rfl rfl) rfl ?_; refine TL.nil' ?_
      first | refine TC.condD rfl (fun hc31 => ?_) (fun hc31 => ?_) | refine TC.condN rfl (fun hc31 => ?_) (fun hc31 => ?_) | refine TC.cond rfl (fun hc31 => ?_) (fun hc31 => ?_)
      · try dsimp only at hc31
        refine TC.seq ?_; refine TC.region ?_; refine TL.run1 (pure_move rfl) rfl ?_; refine TL.run1 (pure_move rfl) rfl ?_; refine TL.run1 (pure_sliceV (l := 0) (h := i) (m := cap) Ty.sl26 rfl rfl rfl rfl (by omega) (by omega) (by omega)) rfl ?_; refine TL.run1 (pure_move rfl) rfl ?_; refine TL.run1 (pure_move rfl) rfl ?_; refine TL.run1 (pure_add rfl rfl (mkI64 (by omega) (by omega))) rfl ?_; refine TL.run1 (pure_move rfl) rfl ?_; refine TL.run1 (pure_sub rfl rfl (mkI64 (by omega) (by omega))) rfl ?_
        refine TL.appendZeros (g := g) (p := i) (zc := n + 1 - i) (n := n) (cap := cap) (xs := (encP l)) Ty.app26 Try.underlying3 Ty.zero38 rfl (show some _ = some _ from by rw [ite_self]; rfl) (castI (by omega)) (by repeat (first | exact List.Mem.head _ | apply List.Mem.tail)) (by omega) (by omega) (by omega) (by omega) rfl (fun g3 c3 hg3 => ?_)
        rw [show i + (n + 1 - i) = n + 1 by omega] at hg3 ⊢
        refine TL.run1 (pure_assign rfl) rfl ?_; refine TL.nil' ?_; refine TC.seq ?_; refine TC.region ?_; refine TL.run1 (pure_move rfl) rfl ?_; refine TL.run1 (pure_move rfl) rfl ?_; refine TL.run1 (pure_sliceV (l := i) (h := n + 1) (m := c3) Ty.sl26 rfl rfl ⟨rfl, rfl⟩ rfl (by omega) (by omega) (by omega)) rfl ?_
        rw [if_neg (show ¬ c3 = i by omega)]
        refine TL.run1 (pure_move rfl) rfl ?_; refine TL.copyRow (p := i) (k := 1) (n := n + 1) (n' := n + 1) (cap := c3) (xs := (encP l).take i ++ List.replicate (n + 1 - i) [.v (.int .i64 0), .v (.int .i64 0)]) (src := [[D.v (.int .i64 key), .v (.int .i64 value)]]) Ty.app26 rfl (by omega) (.part (b := 0) (k := 1) (xs := [[D.v (.int .i64 key), .v (.int .i64 value)]]) (n := 1) rfl (by repeat (first | exact List.Mem.head _ | apply List.Mem.tail)) (by omega) (by simp) (by omega)) (by (show 1 = min _ _); omega) (by repeat (first | exact UpdR.here _ | apply UpdR.there)) (ins_len _ _ _ _ (by simp only [List.length_append, List.length_take, List.length_replicate, List.length_cons, List.length_nil]; omega) (by simp only [List.length_append, List.length_take, List.length_replicate]; omega)) (by simp only [List.length_append, List.length_take, List.length_replicate]; omega) (by simp only [List.length_cons, List.length_nil]; omega) rfl ?_; refine TL.nil' ?_; refine TC.seq ?_; refine TC.drawTailN 8 Ty.follows (by kernel_rfl) (by kernel_rfl) ?_
        simp only [List.take_succ_cons, List.take_zero, List.drop_succ_cons, List.drop_zero]
        refine TD.run1 (pure_move rfl) rfl ?_; refine TD.run1 (pure_move rfl) rfl ?_; refine TD.run1 (pure_move rfl) rfl ?_; refine TD.run1 (pure_add rfl rfl (mkI64 (by omega) (by omega))) rfl ?_; refine TD.run1 (pure_sliceV (l := i + 1) (h := n + 1) (m := c3) Ty.sl26 rfl (castI (by omega)) ⟨rfl, rfl⟩ rfl (by omega) (by omega) (by omega)) rfl ?_
        rw [if_neg (show ¬ c3 = i + 1 by omega)]
        refine TD.run1 (pure_move rfl) rfl ?_; refine TD.run1 (pure_move rfl) rfl ?_; refine TD.run1 (pure_sliceV (l := i) (h := n) (m := cap) Ty.sl26 rfl rfl ⟨rfl, rfl⟩ rfl (by omega) (by omega) (by omega)) rfl ?_
        rw [if_neg (show ¬ cap = i by omega)]
        refine TD.nil ?_
        show TL _ _ _ _ _ _
        refine TL.copyRow (p := i + 1) (k := n - i) (n' := n + 1) (cap := c3) (src := ((encP l).drop i).take (n - i)) Ty.app26 rfl (by omega) (.part (b := i) (k := n - i) (xs := (encP l)) (n := n) (cap := cap) rfl (by repeat (first | exact List.Mem.head _ | apply List.Mem.tail)) (by omega) (by omega) (by omega)) (by (show n - i = min _ _); omega) (by repeat (first | exact UpdR.here _ | apply UpdR.there)) (ins_len _ _ _ _ (by simp only [List.length_append, List.length_take, List.length_drop, List.length_replicate, List.length_cons, List.length_nil]; omega) (by simp only [List.length_append, List.length_take, List.length_drop, List.length_replicate, List.length_cons, List.length_nil]; omega)) (by simp only [List.length_append, List.length_take, List.length_drop, List.length_replicate, List.length_cons, List.length_nil]; omega) (by simp only [List.length_take, List.length_drop]; omega) rfl ?_; refine TL.nil' ?_; refine TC.seq ?_; refine TC.region ?_; refine TL.run1 (pure_move rfl) rfl ?_; refine TL.run1 (pure_assign rfl) rfl ?_; refine TL.nil' ?_; refine TC.ret ?_; refine then_ret ?_
        exact retRow (e := 38) (es := 2) rfl (by repeat (first | exact List.Mem.head _ | apply List.Mem.tail)) (ins_grow (encP l) i n (by omega) (by omega) _ [.v (.int .i64 0), .v (.int .i64 0)])
      · try dsimp only at hc31
        refine TC.skip' ?_; refine TC.seq ?_
        have hroom : n + 1 ≤ cap := by omega
        refine TC.region ?_; refine TL.run1 (pure_move rfl) rfl ?_; refine TL.run1 (pure_move rfl) rfl ?_; refine TL.run1 (pure_move rfl) rfl ?_; refine TL.run1 (pure_add rfl rfl (mkI64 (by omega) (by omega))) rfl ?_; refine TL.run1 (pure_sliceV (l := 0) (h := n + 1) (m := cap) Ty.sl26 rfl rfl (castI (by omega)) rfl (by omega) (by omega) (by omega)) rfl ?_
        rw [ite_self]
        refine TL.run1 (pure_assign rfl) rfl ?_; refine TL.nil' ?_; refine TC.seq ?_; refine TC.seq ?_; refine TC.region ?_; refine TL.run1 (pure_move rfl) rfl ?_; refine TL.run1 (pure_move rfl) rfl ?_; refine TL.run1 (pure_move rfl) rfl ?_; refine TL.run1 (pure_move rfl) rfl ?_; refine TL.run1 (pure_add rfl rfl (mkI64 (by omega) (by omega))) rfl ?_; refine TL.run1 (pure_sliceV (l := i + 1) (h := n + 1) (m := cap) Ty.sl26 rfl (castI (by omega)) ⟨rfl, rfl⟩ rfl (by omega) (by omega) (by omega)) rfl ?_
        rw [if_neg (show ¬ cap = i + 1 by omega)]
        refine TL.overlaps (g1 := g2) (n1 := 1) (cap1 := c2) (g2 := g) (n2 := n) (cap2 := cap) (H1 := [.row (RowV g2 1 c2) 38 2 [[D.v (.int .i64 key), .v (.int .i64 value)]]]) (H2 := [.row (RowV g n cap) 38 2 (encP l)]) Ty.sl26 (fun aa w v h => by rw [run_callFunc_extern Try.func93 (by kernel_rfl) (by kernel_rfl) (by kernel_rfl) (e := Extern.SlicesOverlaps.overlaps #[26, 26] #[4]) (by kernel_rfl), h]; rfl) rfl rfl (.left (.right .nil)) (by repeat (first | exact List.Mem.head _ | apply List.Mem.tail)) (by repeat (first | exact List.Mem.head _ | apply List.Mem.tail)) (by omega) (by omega) rfl ?_; refine TL.run1 (pure_not rfl) rfl ?_; refine TL.nil' ?_
        first | refine TC.condD rfl (fun hc68 => ?_) (fun hc68 => ?_) | refine TC.condN rfl (fun hc68 => ?_) (fun hc68 => ?_) | refine TC.cond rfl (fun hc68 => ?_) (fun hc68 => ?_)
        · try dsimp only at hc68
          refine TC.seq ?_; refine TC.drawTailN 8 Ty.follows (by kernel_rfl) (by kernel_rfl) ?_
          simp only [List.take_succ_cons, List.take_zero, List.drop_succ_cons, List.drop_zero]
          refine TD.run1 (pure_move rfl) rfl ?_; refine TD.run1 (pure_move rfl) rfl ?_; refine TD.run1 (pure_move rfl) rfl ?_; refine TD.run1 (pure_add rfl rfl (mkI64 (by omega) (by omega))) rfl ?_; refine TD.run1 (pure_sliceV (l := i + 1) (h := n + 1) (m := cap) Ty.sl26 rfl (castI (by omega)) ⟨rfl, rfl⟩ rfl (by omega) (by omega) (by omega)) rfl ?_
          rw [if_neg (show ¬ cap = i + 1 by omega)]
          refine TD.run1 (pure_move rfl) rfl ?_; refine TD.run1 (pure_move rfl) rfl ?_; refine TD.run1 (pure_sliceV (l := i) (h := n + 1) (m := cap) Ty.sl26 rfl rfl ⟨rfl, rfl⟩ rfl (by omega) (by omega) (by omega)) rfl ?_
          rw [if_neg (show ¬ cap = i by omega)]
          refine TD.nil ?_
          show TL _ _ _ _ _ _
          refine TL.copyRow (p := i + 1) (k := n - i) (n' := n + 1) (cap := cap) (src := ((encP l).drop i).take (n - i)) Ty.app26 rfl (by omega) (.part (b := i) (k := n - i) (xs := (encP l)) (n := n) (cap := cap) rfl (by repeat (first | exact List.Mem.head _ | apply List.Mem.tail)) (by omega) (by omega) (by omega)) (by (show n - i = min _ _); omega) (by repeat (first | exact UpdR.here _ | apply UpdR.there)) (ins_len _ _ _ _ (by simp only [List.length_take, List.length_drop]; omega) (by omega)) (by omega) (by simp only [List.length_take, List.length_drop]; omega) rfl ?_; refine TL.nil' ?_; refine TC.seq ?_; refine TC.region ?_; refine TL.run1 (pure_move rfl) rfl ?_; refine TL.run1 (pure_move rfl) rfl ?_; refine TL.run1 (pure_sliceV (l := i) (h := n + 1) (m := cap) Ty.sl26 rfl rfl ⟨rfl, rfl⟩ rfl (by omega) (by omega) (by omega)) rfl ?_
          rw [if_neg (show ¬ cap = i by omega)]
          refine TL.run1 (pure_move rfl) rfl ?_; refine TL.copyRow (p := i) (k := 1) (n' := n + 1) (cap := cap) (src := [[D.v (.int .i64 key), .v (.int .i64 value)]]) Ty.app26 rfl (by omega) (.part (b := 0) (k := 1) (xs := [[D.v (.int .i64 key), .v (.int .i64 value)]]) (n := 1) rfl (by repeat (first | exact List.Mem.head _ | apply List.Mem.tail)) (by omega) (by simp) (by omega)) (by (show 1 = min _ _); omega) (by repeat (first | exact UpdR.here _ | apply UpdR.there)) (ins_len _ _ _ _ (by simp only [List.length_append, List.length_take, List.length_drop, List.length_cons, List.length_nil]; omega) (by simp only [List.length_append, List.length_take, List.length_drop]; omega)) (by simp only [List.length_append, List.length_take, List.length_drop]; omega) (by simp only [List.length_cons, List.length_nil]; omega) rfl ?_; refine TL.nil' ?_; refine TC.seq ?_; refine TC.region ?_; refine TL.run1 (pure_move rfl) rfl ?_; refine TL.run1 (pure_assign rfl) rfl ?_; refine TL.nil' ?_; refine TC.ret ?_; refine then_ret ?_
          exact retRow (e := 38) (es := 2) rfl (by repeat (first | exact List.Mem.head _ | apply List.Mem.tail)) (ins_in (encP l) i n (by omega) (by omega) _)
        · try dsimp only at hc68
          exact absurd hc68 (by simp)

theorem insertAny_spec (l : List (Int × Int)) (v v2 : Value) (i : Int) (key value : Int) (h0 : 0 ≤ i) (hi : i ≤ l.length) (hl : l.length ≤ 1000000) :
    CallD Try.prog 83 [.v v, .v (.int .i64 i), .v v2] [.row v2 38 2 [[D.v (.int .i64 key), .v (.int .i64 value)]], .row v 38 2 (encP l)] (fun r H' => ∃ v, r = .v v ∧ H' = [.row v 38 2 ((encP l).take i.toNat ++ [[D.v (.int .i64 key), .v (.int .i64 value)]] ++ (encP l).drop i.toNat)]) := by
  intro w F vs hvl hv hh hF
  obtain ⟨i, rfl⟩ : ∃ n : Nat, i = n := ⟨i.toNat, by omega⟩
  rw [Int.toNat_natCast]
  obtain ⟨vals2, hown2, _⟩ := row_ok hh (List.mem_cons_self : Blk.row v2 38 2 [[D.v (.int .i64 key), .v (.int .i64 value)]] ∈ _)
  obtain ⟨vals, hown, _⟩ := row_ok hh (List.mem_cons_of_mem _ List.mem_cons_self : Blk.row v 38 2 (encP l) ∈ _)
  rcases hown2.2 with ⟨_, hn2⟩ | ⟨g2, c2, cur2, rfl, _, hg2, hle2, _⟩
  · simp at hn2
  have hk := encP_len l
  rcases hown.2 with ⟨rfl, hn⟩ | ⟨g, cap, cur, rfl, _, hg, hle, _⟩
  · have hl0 : l = [] := List.length_eq_zero_iff.1 (by omega)
    subst hl0
    obtain rfl : i = 0 := by simp at hi; omega
    exact insertNil_spec g2 c2 key value (by simpa using hle2) w F vs hvl hv hh hF
  · have hne : g ≠ g2 := fun he => (List.pairwise_cons.1 hh.apart).1 _ List.mem_cons_self g2 rfl (by rw [← he]; rfl)
    exact insert_spec l g _ cap g2 c2 i key value (by omega) hle (by omega) hne hl (by simpa using hle2) w F vs hvl hv hh hF
end Go.Ob
set_option linter.unusedVariables false
set_option linter.unusedSimpArgs false
namespace Go.Ob
open Go.Proofs

theorem del_in {α : Type} (X : List α) (i n cap : Nat) (hn : n = X.length) (hi : i < n) (hc : n ≤ cap) (Z T : List α) (q : Nat) :
    (((X.take i ++ (X.drop (if cap = i + 1 then 0 else i + 1)).take (n - (i + 1)) ++ X.drop q).take (n - 1) ++ Z ++ T).take (n - 1)) = X.take i ++ X.drop (i + 1) := by
  have e1 : (X.drop (if cap = i + 1 then 0 else i + 1)).take (n - (i + 1)) = X.drop (i + 1) := by
    split
    · rw [show n - (i + 1) = 0 by omega, List.take_zero, List.drop_eq_nil_of_le (by omega)]
    · exact List.take_of_length_le (by rw [List.length_drop]; omega)
  have l1 : (X.take i ++ X.drop (i + 1)).length = n - 1 := by rw [List.length_append, List.length_take, List.length_drop]; omega
  rw [e1]
  have e2 : (X.take i ++ X.drop (i + 1) ++ X.drop q).take (n - 1) = X.take i ++ X.drop (i + 1) := by
    rw [List.take_append, l1, List.take_of_length_le (by omega), Nat.sub_self, List.take_zero, List.append_nil]
  rw [e2, List.append_assoc, List.take_append, l1, List.take_of_length_le (by omega), Nat.sub_self, List.take_zero, List.append_nil]
theorem encP_set (l : List (Int × Int)) (i : Nat) (k v : Int) : encP (l.set i (k, v)) = (encP l).set i [.v (.int .i64 k), .v (.int .i64 v)] := by simp [encP, List.map_set]

set_option maxRecDepth 100000 in
theorem SetB_spec (l : List (Int × Int)) (key : Int) (value : Int) (hinc : Inc (keysP l)) (hl : l.length ≤ 1000000) : Fun Try.prog 67 [.sl 2 (encP l), .v (.int .i64 key), .v (.int .i64 value)] (.sl 2 (encP (setB l key value))) := by
  refine Fun.enterF (n := 32) (rs := [.tmp 6]) Try.func67 rfl Try.ntmps67 Try.results67 rfl (fun w F => ?_)
  have hk := encP_len l
  refine TC.seq ?_; refine TC.region ?_; refine TL.run1 (pure_assign rfl) rfl ?_; refine TL.nil' ?_; refine TC.seq ?_; refine TC.region ?_; refine TL.run1 (pure_move rfl) rfl ?_; refine TL.run1 (pure_move rfl) rfl ?_; refine TL.run1 (pure_call (searchP_spec _ _ hinc hl) (.cons rfl (.cons rfl .nil)) Try.call82) rfl ?_; refine TL.run1 (pure_move rfl) rfl ?_; refine TL.run1 (pure_extract rfl rfl) rfl ?_; refine TL.run1 (pure_extract rfl rfl) rfl ?_; refine TL.run1 (pure_assign rfl) rfl ?_; refine TL.run1 (pure_assign rfl) rfl ?_; refine TL.nil' ?_; refine TC.seq ?_; refine TC.region ?_; refine TL.run1 (pure_move rfl) rfl ?_; refine TL.callD (H1 := []) (H2 := _) (SplitR.none _) (Clone_spec l hl) (.cons rfl .nil) Try.call75 (fun t ht => by cases ht; exact of_decide_eq_true rfl) ?_
  rintro r1 H1 ⟨v1, rfl, rfl⟩
  show TL _ _ _ _ _ [Blk.row v1 38 2 (encP l)]
  refine TL.run1 (pure_assign rfl) rfl ?_; refine TL.nil' ?_; refine TC.seq ?_; refine TC.seq ?_; refine TC.region ?_; refine TL.run1 (pure_move rfl) rfl ?_; refine TL.nil' ?_
  first | refine TC.condD rfl (fun hc18 => ?_) (fun hc18 => ?_) | refine TC.condN rfl (fun hc18 => ?_) (fun hc18 => ?_) | refine TC.cond rfl (fun hc18 => ?_) (fun hc18 => ?_)
  · try dsimp only at hc18
    have hin : inI (keysP l) key = true := decide_eq_true hc18
    obtain ⟨hlt, hkey⟩ := in_at hin
    refine TC.seq ?_; refine TC.region ?_; refine TL.run1 (pure_move rfl) rfl ?_; refine TL.run1 (pure_move rfl) rfl ?_; refine TL.run1 (pure_move rfl) rfl ?_
    refine TL.indexRow Ty.sl26 rfl rfl (by repeat (first | exact List.Mem.head _ | apply List.Mem.tail)) (by omega) (by omega) rfl (fun g22 hg22 => ?_)
    refine TL.run1 (pure_fieldAddr_own Ty.f38_1 rfl) rfl ?_
    have hrow := encP_get l (lbI (keysP l) key) (by omega) (by omega)
    refine TL.storeRow (es := 2) (i := ((lbI (keysP l) key) : Int).toNat) (o := 1) rfl hg22 (by omega) rfl (.one rfl) Try.sizeOf3 rfl (by repeat (first | exact UpdR.here _ | apply UpdR.there)) hrow (by repeat (first | exact PutR.nil _ | apply PutR.here | apply PutR.skip)) ?_; refine TL.nil' ?_; refine TC.seq ?_; refine TC.region ?_; refine TL.run1 (pure_move rfl) rfl ?_; refine TL.run1 (pure_assign rfl) rfl ?_; refine TL.nil' ?_; refine TC.ret ?_; refine then_ret ?_
    have hres : setB l key value = l.set (lbI (keysP l) key) (key, value) := by unfold setB; rw [if_pos hin]
    have hrow2 : (encP l).set ((lbI (keysP l) key) : Int).toNat [.v (.int .i64 (pAt l (lbI (keysP l) key)).1), .v (.int .i64 value)] = encP (setB l key value) := by rw [hres, encP_set, hkey, Int.toNat_natCast]
    exact retF_row (xs := (encP l).set ((lbI (keysP l) key) : Int).toNat [.v (.int .i64 (pAt l (lbI (keysP l) key)).1), .v (.int .i64 value)]) rfl (by repeat (first | exact List.Mem.head _ | apply List.Mem.tail)) (by decide) (by rw [hrow2]; exact encP_each _) (by rw [hrow2])
  · try dsimp only at hc18
    have hin : inI (keysP l) key = false := decide_eq_false hc18
    have hle := lbI_le (keysP l) key
    rw [keysP_len] at hle
    refine TC.skip' ?_; refine TC.seq ?_; refine TC.region ?_; refine TL.run1 (pure_move rfl) rfl ?_; refine TL.run1 (pure_move rfl) rfl ?_; refine TL.run1 (pure_move rfl) rfl ?_; refine TL.run1 (pure_move rfl) rfl ?_; refine TL.run1 (pure_build Ty.pl38 Ty.zero38 (.cons rfl rfl (.one rfl) rfl (.here (.nil _)) (.cons rfl rfl (.one rfl) rfl (.skip (.here (.nil _))) (.nil _)))) rfl ?_
    refine TL.buildRow (xs := [.tmp 29]) Ty.app26 (by decide) rfl rfl (.cons rfl (.agg _) rfl .nil) rfl (fun v30 hv30 => ?_)
    refine TL.callD (H1 := [.row v30 38 2 [[D.v (.int .i64 key), .v (.int .i64 value)]], .row v1 38 2 (encP l)]) (H2 := []) (SplitR.all _) (insertAny_spec l v1 v30 (lbI (keysP l) key) key value (by omega) (by omega) hl) (.cons rfl (.cons rfl (.cons rfl .nil))) Try.call83 (fun t ht => by cases ht; exact of_decide_eq_true rfl) ?_
    rintro r2 H2 ⟨v2, rfl, rfl⟩
    show TL _ _ _ _ _ [Blk.row v2 38 2 ((encP l).take ((lbI (keysP l) key) : Int).toNat ++ [[D.v (.int .i64 key), .v (.int .i64 value)]] ++ (encP l).drop ((lbI (keysP l) key) : Int).toNat)]
    refine TL.run1 (pure_assign rfl) rfl ?_; refine TL.nil' ?_; refine TC.ret ?_
    have hres : (encP l).take ((lbI (keysP l) key) : Int).toNat ++ [[D.v (.int .i64 key), .v (.int .i64 value)]] ++ (encP l).drop ((lbI (keysP l) key) : Int).toNat = encP (setB l key value) := by (unfold setB; rw [hin, if_neg (by simp), Int.toNat_natCast, encP_append, encP_take, encP_drop, List.append_assoc]; rfl)
    exact retF_row (xs := (encP l).take ((lbI (keysP l) key) : Int).toNat ++ [[D.v (.int .i64 key), .v (.int .i64 value)]] ++ (encP l).drop ((lbI (keysP l) key) : Int).toNat) rfl (by repeat (first | exact List.Mem.head _ | apply List.Mem.tail)) (by decide) (by rw [hres]; exact encP_each _) (by rw [hres])
-- ClearB_spec: not in this seat

theorem Set_spec (l : List (Int × Int)) (key : Int) (value : Int) (hinc : Inc (keysP l)) (hl : l.length ≤ 1000000) : Fun Try.prog 67 [.sl 2 (encP l), .v (.int .i64 key), .v (.int .i64 value)] (.sl 2 (encP (setP l key value))) := setB_eq hinc key value ▸ SetB_spec l key value hinc hl
set_option maxRecDepth 100000 in
theorem sEqual_spec (a b : List (Int × Int)) (hl : a.length ≤ 1000000) : Fun Try.prog 80 [.sl 2 (encP a), .sl 2 (encP b)] (.v (.bool (decide (a = b)))) := by
  refine Fun.enter (n := 26) (rs := [.tmp 4]) Try.func80 rfl Try.ntmps80 Try.results80 rfl (fun w F => ?_)
  have hka := encP_len a
  have hkb := encP_len b
  refine TC.seq ?_; refine TC.region ?_; refine TL.run1 (pure_assign rfl) rfl ?_; refine TL.nil' ?_; refine TC.seq ?_; refine TC.seq ?_; refine TC.region ?_; refine TL.run1 (pure_move rfl) rfl ?_
  first | refine TL.run1 (pure_len Ty.sl26 rfl) rfl ?_ | refine TL.run1 (pure_len_row Ty.sl26 rfl (by repeat (first | exact List.Mem.head _ | apply List.Mem.tail))) rfl ?_ | refine TL.run1 (pure_len_nil Ty.sl26 rfl) rfl ?_
  refine TL.run1 (pure_move rfl) rfl ?_
  first | refine TL.run1 (pure_len Ty.sl26 rfl) rfl ?_ | refine TL.run1 (pure_len_row Ty.sl26 rfl (by repeat (first | exact List.Mem.head _ | apply List.Mem.tail))) rfl ?_ | refine TL.run1 (pure_len_nil Ty.sl26 rfl) rfl ?_
  refine TL.run1 (pure_neq rfl rfl) rfl ?_; refine TL.nil' ?_
  first | refine TC.condD rfl (fun hc10 => ?_) (fun hc10 => ?_) | refine TC.condN rfl (fun hc10 => ?_) (fun hc10 => ?_) | refine TC.cond rfl (fun hc10 => ?_) (fun hc10 => ?_)
  · try dsimp only at hc10
    refine TC.seq ?_; refine TC.region ?_; refine TL.run1 (pure_assign rfl) rfl ?_; refine TL.nil' ?_; refine TC.ret ?_; refine then_ret ?_
    exact ret_bool rfl (by symm; rw [decide_eq_false_iff_not]; rintro rfl; omega)
  · try dsimp only at hc10
    refine TC.skip' ?_; refine TC.seq ?_; refine TC.seq ?_; refine TC.region ?_; refine TL.run1 (pure_move rfl) rfl ?_
    first | refine TL.run1 (pure_len Ty.sl26 rfl) rfl ?_ | refine TL.run1 (pure_len_row Ty.sl26 rfl (by repeat (first | exact List.Mem.head _ | apply List.Mem.tail))) rfl ?_ | refine TL.run1 (pure_len_nil Ty.sl26 rfl) rfl ?_
    refine TL.run1 (pure_move rfl) rfl ?_; refine TL.nil' ?_; refine TC.block ?_; refine TC.loopX (X := Int) (fun i => [(0, .sl 2 (encP a)), (1, .sl 2 (encP b)), (12, .v (.int .i64 a.length)), (13, .v (.int .i64 i))]) (fun i => []) (fun i => (0 ≤ i) ∧ (i ≤ a.length) ∧ (∀ j : Int, 0 ≤ j → j < i → pAt a j = pAt b j)) (fun i => (a.length - i).toNat) (0) ⟨by rw [encP_len]; repeat (first | exact Agree.nil | refine Agree.cons rfl ?_), by skip; repeat (first | exact List.nil_sublist _ | exact List.Sublist.refl _ | apply List.Sublist.cons_cons | apply List.Sublist.cons)⟩ ?_ ?_
    · skip
      exact ⟨by omega, by omega, fun j _ _ => by omega⟩
    intro i
    rintro ⟨h0, h1, h2⟩
    show TC _ _ _ (Env.of [(0, .sl 2 (encP a)), (1, .sl 2 (encP b)), (12, .v (.int .i64 a.length)), (13, .v (.int .i64 i))]) []
    refine TC.seq ?_; refine TC.region ?_; refine TL.run1 (pure_lss rfl rfl) rfl ?_; refine TL.nil' ?_; refine TC.seq ?_
    first | refine TC.condD rfl (fun hc14 => ?_) (fun hc14 => ?_) | refine TC.condN rfl (fun hc14 => ?_) (fun hc14 => ?_) | refine TC.cond rfl (fun hc14 => ?_) (fun hc14 => ?_)
    · try dsimp only at hc14
      refine TC.skip' ?_; refine TC.seq ?_; refine TC.block ?_; refine TC.seq ?_; refine TC.region ?_; refine TL.run1 (pure_move rfl) rfl ?_; refine TL.run1 (pure_assign rfl) rfl ?_; refine TL.nil' ?_; refine TC.seq ?_
      have hra := encP_get a i (by omega) (by omega)
      have hrb := encP_get b i (by omega) (by omega)
      refine TC.draw Ty.follows (by kernel_rfl) ?_; refine TD.run1 (pure_move rfl) rfl ?_; refine TD.run1 (pure_move rfl) rfl ?_; refine TD.run1 (pure_indexAddr Ty.sl26 rfl rfl (by omega) (by assumption) (List.cons_ne_nil _ _)) rfl ?_
      first | refine TD.run1 (pure_load Ty.agg38 rfl (.succ (.succ (.zero _)))) rfl ?_ | refine TD.run1 (pure_load_own Ty.agg38 rfl (by repeat (first | exact List.Mem.head _ | apply List.Mem.tail)) (by repeat (first | exact DropR.zero _ | apply DropR.succ)) (.succ (.succ (.zero _)))) rfl ?_
      refine TD.run1 (pure_move rfl) rfl ?_; refine TD.run1 (pure_move rfl) rfl ?_; refine TD.run1 (pure_indexAddr Ty.sl26 rfl rfl (by omega) (by assumption) (List.cons_ne_nil _ _)) rfl ?_
      first | refine TD.run1 (pure_load Ty.agg38 rfl (.succ (.succ (.zero _)))) rfl ?_ | refine TD.run1 (pure_load_own Ty.agg38 rfl (by repeat (first | exact List.Mem.head _ | apply List.Mem.tail)) (by repeat (first | exact DropR.zero _ | apply DropR.succ)) (.succ (.succ (.zero _)))) rfl ?_
      refine TD.run1 (pure_neq_agg Ty.eq38 rfl rfl (.cons (.cons .nil)) (.cons (.cons .nil)) rfl rfl) rfl ?_; refine TD.nil' ?_
      first | refine TC.condD rfl (fun hc24 => ?_) (fun hc24 => ?_) | refine TC.condN rfl (fun hc24 => ?_) (fun hc24 => ?_) | refine TC.cond rfl (fun hc24 => ?_) (fun hc24 => ?_)
      · try dsimp only at hc24
        refine TC.seq ?_; refine TC.region ?_; refine TL.run1 (pure_assign rfl) rfl ?_; refine TL.nil' ?_; refine TC.ret ?_; refine block_ret ?_; refine then_ret ?_; refine loop_ret ?_; refine block_ret ?_; refine then_ret ?_
        exact ret_bool rfl (by symm; rw [decide_eq_false_iff_not]; rintro rfl; exact hc24 rfl)
      · try dsimp only at hc24
        refine TC.skip ?_; refine block_normal ?_; refine then_normal ?_; refine TC.region ?_; refine TL.run1 (pure_add rfl rfl (mkI64 (by omega) (by omega))) rfl ?_; refine TL.run1 (pure_move rfl) rfl ?_; refine TL.nil ?_
        refine loop_next (i + 1) ⟨by repeat (first | exact Agree.nil | refine Agree.cons rfl ?_), by repeat (first | exact List.nil_sublist _ | exact List.Sublist.refl _ | apply List.Sublist.cons_cons | apply List.Sublist.cons)⟩ ⟨by omega, by omega, fun j a b => ?_⟩ (by omega)
        rcases Int.lt_or_eq_of_le (show j ≤ i by omega) with h | h
        · exact h2 j a h
        · rw [h]; have := Decidable.not_not.1 hc24; simp only [List.cons.injEq, and_true] at this; exact Prod.ext this.1 this.2
    · try dsimp only at hc14
      refine TC.exit ?_; refine then_exit ?_; refine loop_exit ?_; refine block_here ?_; refine then_normal ?_; refine TC.seq ?_; refine TC.region ?_; refine TL.run1 (pure_assign rfl) rfl ?_; refine TL.nil' ?_; refine TC.ret ?_
      exact ret_bool rfl (by symm; rw [decide_eq_true_eq]; exact eqP_ext a b (by omega) fun j c d => h2 j c (by omega))
set_option maxRecDepth 100000 in
theorem Equal_spec (a b : List (Int × Int)) (hl : a.length ≤ 1000000) : Fun Try.prog 62 [.sl 2 (encP a), .sl 2 (encP b)] (.v (.bool (decide (a = b)))) := by
  refine Fun.enter (n := 8) (rs := [.tmp 4]) Try.func62 rfl Try.ntmps62 Try.results62 rfl (fun w F => ?_)
  refine TC.seq ?_; refine TC.region ?_; refine TL.run1 (pure_assign rfl) rfl ?_; refine TL.nil' ?_; refine TC.seq ?_; refine TC.region ?_; refine TL.run1 (pure_move rfl) rfl ?_; refine TL.run1 (pure_move rfl) rfl ?_; refine TL.run1 (pure_call (sEqual_spec _ _ hl) (.cons rfl (.cons rfl .nil)) Try.call80) rfl ?_; refine TL.run1 (pure_assign rfl) rfl ?_; refine TL.nil' ?_; refine TC.ret ?_
  exact ret_bool rfl rfl
end Go.Ob
