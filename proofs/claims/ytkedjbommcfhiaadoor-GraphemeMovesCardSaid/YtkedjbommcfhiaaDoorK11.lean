import Derived.Test.YtkedjbommcfhiaaDoorK10
import Derived.Test.YtkedjbommcfhiaaDoorN3
set_option linter.unusedVariables false
set_option linter.unusedSimpArgs false
namespace Go.Ob
open Go.Proofs

def errW (s : ByteArray) (a : Int) : Int := if okS s = true then (if a < 0 ∨ a > nR s then 2 else 0) else 12
def witV (s : ByteArray) (a : Int) : List Int := if errW s a = 0 then bnds (cls s) else []
theorem errW_bad {s : ByteArray} {a : Int} (h : okS s = false) : errW s a = 12 := by unfold errW; rw [h]; rfl
theorem errW_out {s : ByteArray} {a : Int} (h : okS s = true) (h2 : a < 0 ∨ a > nR s) : errW s a = 2 := by unfold errW; rw [if_pos h, if_pos h2]
theorem errW_ok {s : ByteArray} {a : Int} (h : okS s = true) (h2 : ¬ (a < 0 ∨ a > nR s)) : errW s a = 0 := by unfold errW; rw [if_pos h, if_neg h2]
theorem errW_zero {s : ByteArray} {a : Int} (h : errW s a = 0) : okS s = true ∧ 0 ≤ a ∧ a ≤ nR s := by
  unfold errW at h
  by_cases h1 : okS s = true
  · rw [if_pos h1] at h
    by_cases h2 : a < 0 ∨ a > nR s
    · rw [if_pos h2] at h; omega
    · exact ⟨h1, by omega, by omega⟩
  · rw [if_neg h1] at h; omega
def eN (c : List Int) (k : Nat) : Nat := (0 :: (cAll c).map (·.2)).getD k 0
theorem eN_iAt (c : List Int) (k : Nat) : (eN c k : Int) = iAt (bnds c) k := by
  unfold eN bnds ends iAt
  rw [Int.toNat_natCast]
  cases k with
  | zero => rfl
  | succ k => simp [List.getD_eq_getElem?_getD]; cases (cAll c)[k]? <;> rfl
theorem eN_le (c : List Int) (k : Nat) : eN c k ≤ c.length := by
  unfold eN
  cases k with
  | zero => exact Nat.zero_le _
  | succ k =>
    rw [List.getD_cons_succ, List.getD_eq_getElem?_getD, List.getElem?_map]
    cases h : (cAll c)[k]? with
    | none => exact Nat.zero_le _
    | some p => exact (cAll_mem (List.mem_of_getElem? h)).2.1
theorem eN_step {c : List Int} {k : Nat} {p : Nat × Nat} (h : (cAll c)[k]? = some p) : eN c k = p.1 ∧ eN c (k + 1) = p.2 := by
  have hk : k < (cAll c).length := (List.getElem?_eq_some_iff.1 h).1
  have h1 := cAll_fst c k hk
  have e : (cAll c).getD k (0, 0) = p := by rw [List.getD_eq_getElem?_getD, h]; rfl
  rw [e, ← eN_iAt] at h1
  refine ⟨by omega, ?_⟩
  unfold eN
  rw [List.getD_cons_succ, List.getD_eq_getElem?_getD, List.getElem?_map, h]; rfl
def truE (s : ByteArray) (n : Int) : Int := if okS s = true then (if n < 0 then 2 else 0) else 12
def truV (s : ByteArray) (n : Int) : ByteArray := if okS s = true then (if n < 0 then ⟨#[]⟩ else s.extract 0 (rpos s (eN (cls s) (min n.toNat (cAll (cls s)).length)))) else ⟨#[]⟩
set_option maxRecDepth 100000 in
theorem Gwithin_spec (s : ByteArray) (a : Int) (hs : s.size ≤ 1000000000) : Fun Tryd.prog 41 [.v (.string s), .v (.int .i64 a)] (.tup [.sl 1 (encI (witV s a)), .v (.int .i64 (errW s a))]) := by
  refine Fun.enterF (n := 29) (rs := [.tmp 4, .tmp 5]) Tryd.func41 rfl Tryd.ntmps41 Tryd.results41 rfl (fun w F => ?_)
  have hkb := encI_len (bndV s)
  have hcl := cls_len s
  have hbp := bnds_pos (cls s)
  have hal := cAll_len_le (cls s)
  have hbl : (bnds (cls s)).length = (cAll (cls s)).length + 1 := ends_len _
  rw [cls_len] at hal
  have hnl := nR_le s
  refine TC.seq ?_
  refine TC.region ?_
  refine TL.run1 (pure_assign rfl) rfl ?_
  refine TL.run1 (pure_assign rfl) rfl ?_
  refine TL.nil' ?_
  refine TC.seq ?_
  refine TC.region ?_
  refine TL.run1 (pure_move rfl) rfl ?_
  refine TL.run1 (pure_call (Boundaries_spec s hs) (.cons rfl .nil) Tryd.call16) rfl ?_
  refine TL.run1 (pure_move rfl) rfl ?_
  refine TL.run1 (pure_extract rfl rfl) rfl ?_
  refine TL.run1 (pure_extract rfl rfl) rfl ?_
  refine TL.run1 (pure_assign rfl) rfl ?_
  refine TL.run1 (pure_assign rfl) rfl ?_
  refine TL.nil' ?_
  refine TC.seq ?_
  refine TC.seq ?_
  refine TC.region ?_
  refine TL.run1 (pure_move rfl) rfl ?_
  refine TL.run1 (pure_neq rfl rfl) rfl ?_
  refine TL.nil' ?_
  first | refine TC.condD rfl (fun hc14 => ?_) (fun hc14 => ?_) | refine TC.condN rfl (fun hc14 => ?_) (fun hc14 => ?_) | refine TC.cond rfl (fun hc14 => ?_) (fun hc14 => ?_)
  · try dsimp only at hc14
    have hbad : okS s = false := by (cases h : okS s with | true => exact absurd (okV h).2.2.2.2 hc14 | false => rfl)
    refine TC.nilrow 3 1 ?_
    refine TC.seq ?_
    refine TC.region ?_
    refine TL.run1 (pure_move rfl) rfl ?_
    refine TL.run1 (pure_assign rfl) rfl ?_
    refine TL.run1 (pure_assign rfl) rfl ?_
    refine TL.nil' ?_
    refine TC.ret ?_
    refine then_ret ?_
    unfold witV; rw [errW_bad hbad, (badV hbad).2.2.2.2, if_neg (by decide)]
    exact retF2 (.inl rfl) rfl rfl (.tupL (.cons (.rowS (v := .slice none 0 0) (e := 3) (xs := []) (by repeat (first | exact List.Mem.head _ | apply List.Mem.tail)) (by decide) (by simp)) (.cons (.same _) .nil)))
  · try dsimp only at hc14
    refine TC.skip' ?_
    refine TC.seq ?_
    have hok : okS s = true := by (cases h : okS s with | true => rfl | false => exact absurd (badV h).2.2.2.2 (by omega))
    obtain ⟨v1, v2, v3, v4, v5⟩ := okV hok
    rw [v3] at hkb ⊢
    have hrow := encI_get (bnds (cls s)) ((bnds (cls s)).length - 1) (by omega) (by omega)
    rw [bnds_last, cls_len] at hrow
    have hrow2 : (encI (bnds (cls s)))[(((encI (bnds (cls s))).length : Int) - 1).toNat]? = some [.v (.int .i64 (nR s))] := by rw [hkb]; exact hrow
    refine TC.regionCut [16, 17, 18, 19, 20, 21, 22, 23, 24, 25, 26, 27] 27 ((a < 0 ∨ a > nR s)) ?_ ?_
    · skip
      refine TL.run1 (pure_move rfl) rfl ?_
      refine TL.run1 (pure_lss rfl rfl) rfl ?_
      refine TL.run1 (pure_move rfl) rfl ?_
      first | refine TL.splitP 18 rfl (fun hg18 => ?_) (fun hg18 => ?_) | refine TL.split 18 rfl (fun hg18 => ?_) (fun hg18 => ?_)
      · try dsimp only at hg18
        refine TL.passG rfl rfl rfl rfl ?_
        refine TL.passG rfl rfl rfl rfl ?_
        refine TL.passG rfl rfl rfl rfl ?_
        refine TL.passG rfl rfl rfl rfl ?_
        refine TL.passG rfl rfl rfl rfl ?_
        refine TL.passG rfl rfl rfl rfl ?_
        refine TL.passG rfl rfl rfl rfl ?_
        refine TL.passG rfl rfl rfl rfl ?_
        refine TL.run1 (pure_pick_true rfl rfl) rfl ?_
        refine TL.cutEnd (by repeat (first | exact Same.refl _ _ | refine Same.put rfl ?_)) rfl ?_
        first | (simp only [decide_eq_true_eq, Bool.false_eq_true, false_iff, true_iff, iff_true, iff_false, Bool.not_eq_true]; omega) | (simp_all; done) | (simp_all; omega) | grind
      · try dsimp only at hg18
        refine TL.runG rfl rfl (pure_move rfl) rfl ?_
        refine TL.runG rfl rfl (pure_move rfl) rfl ?_
        refine TL.runG rfl rfl (pure_move rfl) rfl ?_
        first | refine TL.runG rfl rfl (pure_len Ty.sl26 rfl) rfl ?_ | refine TL.runG rfl rfl (pure_len_row Ty.sl26 rfl (by repeat (first | exact List.Mem.head _ | apply List.Mem.tail))) rfl ?_ | refine TL.runG rfl rfl (pure_len_nil Ty.sl26 rfl) rfl ?_
        refine TL.runG rfl rfl (pure_sub rfl rfl (mkI64 (by omega) (by omega))) rfl ?_
        refine TL.runG rfl rfl (pure_indexAddr Ty.sl26 rfl rfl (by omega) hrow2 (List.cons_ne_nil _ _)) rfl ?_
        first | refine TL.runG rfl rfl (pure_load1 Ty.one3 rfl) rfl ?_ | refine TL.runG rfl rfl (pure_load1_own Ty.one3 rfl (by repeat (first | exact List.Mem.head _ | apply List.Mem.tail)) (by repeat (first | exact DropR.zero _ | apply DropR.succ))) rfl ?_
        refine TL.runG rfl rfl (pure_gtr rfl rfl) rfl ?_
        refine TL.run1 (pure_pick_false rfl rfl) rfl ?_
        refine TL.cutEnd (by repeat (first | exact Same.refl _ _ | refine Same.put rfl ?_)) rfl ?_
        first | (simp only [decide_eq_true_eq, Bool.false_eq_true, false_iff, true_iff, iff_true, iff_false, Bool.not_eq_true]; omega) | (simp_all; done) | (simp_all; omega) | grind
    first | refine TC.condD rfl (fun hc27 => ?_) (fun hc27 => ?_) | refine TC.condN rfl (fun hc27 => ?_) (fun hc27 => ?_) | refine TC.cond rfl (fun hc27 => ?_) (fun hc27 => ?_)
    · try dsimp only at hc27
      refine TC.nilrow 3 1 ?_
      refine TC.seq ?_
      refine TC.region ?_
      refine TL.run1 (pure_assign rfl) rfl ?_
      refine TL.run1 (pure_assign rfl) rfl ?_
      refine TL.nil' ?_
      refine TC.ret ?_
      refine then_ret ?_
      unfold witV; rw [errW_out hok hc27, if_neg (by decide)]
      exact retF2 (.inl rfl) rfl rfl (.tupL (.cons (.rowS (v := .slice none 0 0) (e := 3) (xs := []) (by repeat (first | exact List.Mem.head _ | apply List.Mem.tail)) (by decide) (by simp)) (.cons (.same _) .nil)))
    · try dsimp only at hc27
      refine TC.skip' ?_
      refine TC.seq ?_
      refine TC.region ?_
      refine TL.run1 (pure_move rfl) rfl ?_
      refine TL.run1 (pure_assign rfl) rfl ?_
      refine TL.run1 (pure_assign rfl) rfl ?_
      refine TL.nil' ?_
      refine TC.ret ?_
      unfold witV; rw [errW_ok hok hc27, if_pos rfl]
      exact retF2 (.inl rfl) rfl rfl (.same _)
set_option maxRecDepth 100000 in
theorem SearchInts1_spec (l : List Int) (x i : Int) (h0 : 0 ≤ i) (h1 : i < l.length) : Fun Tryd.prog 54 [.v (.int .i64 i), .at_ [.sl 1 (encI l)], .at_ [.v (.int .i64 x)]] (.v (.bool (decide (iAt l i ≥ x)))) := by
  refine Fun.enter (n := 11) (rs := [.tmp 4]) Tryd.func54 rfl Tryd.ntmps54 Tryd.results54 rfl (fun w F => ?_)
  have hk := encI_len l
  have hrow := encI_get l i h0 h1
  refine TC.seq ?_
  refine TC.region ?_
  refine TL.run1 (pure_assign rfl) rfl ?_
  refine TL.nil' ?_
  refine TC.seq ?_
  refine TC.draw Ty.follows (by kernel_rfl) ?_
  first | refine TD.run1 (pure_load1 Ty.one26 rfl) rfl ?_ | refine TD.run1 (pure_load1_own Ty.one26 rfl (by repeat (first | exact List.Mem.head _ | apply List.Mem.tail)) (by repeat (first | exact DropR.zero _ | apply DropR.succ))) rfl ?_
  refine TD.run1 (pure_move rfl) rfl ?_
  refine TD.run1 (pure_indexAddr Ty.sl26 rfl rfl (by omega) (by assumption) (List.cons_ne_nil _ _)) rfl ?_
  first | refine TD.run1 (pure_load1 Ty.one3 rfl) rfl ?_ | refine TD.run1 (pure_load1_own Ty.one3 rfl (by repeat (first | exact List.Mem.head _ | apply List.Mem.tail)) (by repeat (first | exact DropR.zero _ | apply DropR.succ))) rfl ?_
  first | refine TD.run1 (pure_load1 Ty.one3 rfl) rfl ?_ | refine TD.run1 (pure_load1_own Ty.one3 rfl (by repeat (first | exact List.Mem.head _ | apply List.Mem.tail)) (by repeat (first | exact DropR.zero _ | apply DropR.succ))) rfl ?_
  refine TD.run1 (pure_geq rfl rfl) rfl ?_
  refine TD.run1 (pure_assign rfl) rfl ?_
  refine TD.nil' ?_
  refine TC.ret ?_
  exact ret_bool rfl rfl
set_option maxRecDepth 100000 in
theorem search54_spec (l : List Int) (x : Int) (n : Int) (hn : n ≤ 4000000000) (q : Int → Bool) (hq : ∀ i : Int, 0 ≤ i → i < n → Fun Tryd.prog 54 ([.v (.int .i64 i)] ++ [.at_ [.sl 1 (encI l)], .at_ [.v (.int .i64 x)]]) (.v (.bool (q i)))) (r : Int) (h0 : 0 ≤ r) (h1 : r ≤ n) (hlo : ∀ i : Int, 0 ≤ i → i < r → q i = false) (hhi : ∀ i : Int, r ≤ i → i < n → q i = true) : Fun Tryd.prog 44 [.v (.int .i64 n), .fn 54 [.at_ [.sl 1 (encI l)], .at_ [.v (.int .i64 x)]]] (.v (.int .i64 r)) := by
  refine Fun.enter (n := 26) (rs := [.tmp 4]) Tryd.func44 rfl Tryd.ntmps44 Tryd.results44 rfl (fun w F => ?_)
  refine TC.seq ?_
  refine TC.region ?_
  refine TL.run1 (pure_assign rfl) rfl ?_
  refine TL.nil' ?_
  refine TC.seq ?_
  refine TC.region ?_
  refine TL.run1 (pure_move rfl) rfl ?_
  refine TL.run1 (pure_assign rfl) rfl ?_
  refine TL.run1 (pure_assign rfl) rfl ?_
  refine TL.nil' ?_
  refine TC.seq ?_
  refine TC.block ?_
  refine TC.loopX (X := Int × Int) (fun (i, j) => [(0, .v (.int .i64 n)), (1, .fn 54 [.at_ [.sl 1 (encI l)], .at_ [.v (.int .i64 x)]]), (5, .v (.int .i64 i)), (6, .v (.int .i64 j))]) (fun (i, j) => []) (fun (i, j) => (0 ≤ i) ∧ (i ≤ r) ∧ (r ≤ j) ∧ (j ≤ n)) (fun (i, j) => (j - i).toNat) (0, n) ⟨by skip; repeat (first | exact Agree.nil | refine Agree.cons rfl ?_), by skip; repeat (first | exact List.nil_sublist _ | exact List.Sublist.refl _ | apply List.Sublist.cons_cons | apply List.Sublist.cons)⟩ ?_ ?_
  · skip
    exact ⟨by omega, h0, h1, by omega⟩
  rintro ⟨i, j⟩
  rintro ⟨k0, k1, k2, k3⟩
  show TC _ _ _ (Env.of [(0, .v (.int .i64 n)), (1, .fn 54 [.at_ [.sl 1 (encI l)], .at_ [.v (.int .i64 x)]]), (5, .v (.int .i64 i)), (6, .v (.int .i64 j))]) []
  refine TC.seq ?_
  refine TC.seq ?_
  refine TC.region ?_
  refine TL.run1 (pure_move rfl) rfl ?_
  refine TL.run1 (pure_move rfl) rfl ?_
  refine TL.run1 (pure_lss rfl rfl) rfl ?_
  refine TL.nil' ?_
  first | refine TC.condD rfl (fun hc11 => ?_) (fun hc11 => ?_) | refine TC.condN rfl (fun hc11 => ?_) (fun hc11 => ?_) | refine TC.cond rfl (fun hc11 => ?_) (fun hc11 => ?_)
  · try dsimp only at hc11
    refine TC.skip' ?_
    refine TC.block ?_
    refine TC.seq ?_
    refine TC.region ?_
    refine TL.run1 (pure_move rfl) rfl ?_
    refine TL.run1 (pure_move rfl) rfl ?_
    refine TL.run1 (pure_add rfl rfl (mkI64 (by omega) (by omega))) rfl ?_
    refine TL.run1 (pure_conv Tryd.underlying3 Tryd.underlying80 rfl (fit_u64 (by omega) (by omega))) rfl ?_
    refine TL.run1 (pure_shrl (m := 2) (by rfl) rfl rfl (by decide) (by decide)) rfl ?_
    refine TL.run1 (pure_conv Tryd.underlying80 Tryd.underlying3 rfl (fit_i64 (by omega) (by omega))) rfl ?_
    refine TL.run1 (pure_assign rfl) rfl ?_
    refine TL.nil' ?_
    refine TC.seq ?_
    have hb : 0 ≤ (i + j) / 2 ∧ (i + j) / 2 < j ∧ i ≤ (i + j) / 2 := by omega
    refine TC.region ?_
    refine TL.run1 (pure_move rfl) rfl ?_
    refine TL.run1 (pure_move rfl) rfl ?_
    refine TL.run1 (pure_callv rfl (hq _ (by omega) (by omega)) (.cons rfl .nil) Tryd.call54) rfl ?_
    refine TL.run1 (pure_not rfl) rfl ?_
    refine TL.nil' ?_
    first | refine TC.condD rfl (fun hc21 => ?_) (fun hc21 => ?_) | refine TC.condN rfl (fun hc21 => ?_) (fun hc21 => ?_) | refine TC.cond rfl (fun hc21 => ?_) (fun hc21 => ?_)
    · try dsimp only at hc21
      have hc21 : q ((i + j) / 2) = false := by simpa using hc21
      refine TC.region ?_
      refine TL.run1 (pure_move rfl) rfl ?_
      refine TL.run1 (pure_add rfl rfl (mkI64 (by omega) (by omega))) rfl ?_
      refine TL.run1 (pure_assign rfl) rfl ?_
      refine TL.nil ?_
      refine block_normal ?_
      have hnr : (i + j) / 2 < r := by rcases Int.lt_or_le ((i + j) / 2) r with h | h; exact h; exact absurd (hhi _ h (by omega)) (by rw [hc21]; simp)
      refine loop_next ((i + j) / 2 + 1, j) ⟨by repeat (first | exact Agree.nil | refine Agree.cons rfl ?_), by repeat (first | exact List.nil_sublist _ | exact List.Sublist.refl _ | apply List.Sublist.cons_cons | apply List.Sublist.cons)⟩ ⟨by omega, by omega, by omega, by omega⟩ (by dsimp only; omega)
    · try dsimp only at hc21
      have hc21 : q ((i + j) / 2) = true := by simpa using hc21
      refine TC.region ?_
      refine TL.run1 (pure_move rfl) rfl ?_
      refine TL.run1 (pure_assign rfl) rfl ?_
      refine TL.nil ?_
      refine block_normal ?_
      have hnr : r ≤ (i + j) / 2 := by rcases Int.lt_or_le ((i + j) / 2) r with h | h; exact absurd (hlo _ (by omega) h) (by rw [hc21]; simp); exact h
      refine loop_next (i, (i + j) / 2) ⟨by repeat (first | exact Agree.nil | refine Agree.cons rfl ?_), by repeat (first | exact List.nil_sublist _ | exact List.Sublist.refl _ | apply List.Sublist.cons_cons | apply List.Sublist.cons)⟩ ⟨by omega, by omega, by omega, by omega⟩ (by dsimp only; omega)
  · try dsimp only at hc11
    refine TC.exit ?_
    refine then_exit ?_
    refine loop_exit ?_
    refine block_here ?_
    refine then_normal ?_
    refine TC.seq ?_
    refine TC.region ?_
    refine TL.run1 (pure_move rfl) rfl ?_
    refine TL.run1 (pure_assign rfl) rfl ?_
    refine TL.nil' ?_
    refine TC.ret ?_
    exact ret_int rfl (by omega)
set_option maxRecDepth 100000 in
theorem SearchInts_spec (l : List Int) (x : Int) (hi : Inc l) (hl : l.length ≤ 2000000000) : Fun Tryd.prog 42 [.sl 1 (encI l), .v (.int .i64 x)] (.v (.int .i64 (lbI l x : Int))) := by
  refine Fun.enter (n := 9) (rs := [.tmp 4]) Tryd.func42 rfl Tryd.ntmps42 Tryd.results42 rfl (fun w F => ?_)
  have hk := encI_len l
  have hle := lbI_le l x
  refine TC.seq ?_
  refine TC.region ?_
  refine TL.box rfl (.one rfl) rfl (fun g2 => ?_)
  refine TL.box rfl (.one rfl) rfl (fun g3 => ?_)
  refine TL.run1 (pure_assign rfl) rfl ?_
  refine TL.nil' ?_
  refine TC.seq ?_
  refine TC.frz2 2 3 rfl rfl (.boxS (gone_nil (by repeat (first | exact List.Mem.head _ | apply List.Mem.tail))) (List.cons_ne_nil _ _)) (.boxS (gone_nil (by repeat (first | exact List.Mem.head _ | apply List.Mem.tail))) (List.cons_ne_nil _ _)) ?_
  refine TC.region ?_
  first | refine TL.run1 (pure_load1 Ty.one26 rfl) rfl ?_ | refine TL.run1 (pure_load1_own Ty.one26 rfl (by repeat (first | exact List.Mem.head _ | apply List.Mem.tail)) (by repeat (first | exact DropR.zero _ | apply DropR.succ))) rfl ?_
  first | refine TL.run1 (pure_len Ty.sl26 rfl) rfl ?_ | refine TL.run1 (pure_len_row Ty.sl26 rfl (by repeat (first | exact List.Mem.head _ | apply List.Mem.tail))) rfl ?_ | refine TL.run1 (pure_len_nil Ty.sl26 rfl) rfl ?_
  refine TL.run1 (pure_makeFunc (.cons rfl (.cons rfl .nil))) rfl ?_
  refine TL.run1 (pure_call (search54_spec l x ((encI l).length : Int) (by omega) (fun i => decide (iAt l i ≥ x)) (fun i a b => SearchInts1_spec l x i a (by omega)) (lbI l x : Int) (by omega) (by omega) (fun i a b => decide_eq_false (by have h := lb_lo l x i.toNat (by omega); rw [kAt_iAt l i a] at h; omega)) (fun i a b => decide_eq_true (by have h := lb_hi hi x i.toNat (by omega) (by omega); rw [kAt_iAt l i (by omega)] at h; exact h))) (.cons rfl (.cons rfl .nil)) Tryd.call44) rfl ?_
  refine TL.run1 (pure_assign rfl) rfl ?_
  refine TL.nil' ?_
  refine TC.ret ?_
  exact ret_int rfl rfl
set_option maxRecDepth 100000 in
theorem isNaN_spec (x : Int) : Fun Tryd.prog 59 [.v (.int .i64 x)] (.v (.bool false)) := by
  refine Fun.enter (n := 6) (rs := [.tmp 2]) Tryd.func59 rfl Tryd.ntmps59 Tryd.results59 rfl (fun w F => ?_)
  refine TC.seq ?_
  refine TC.region ?_
  refine TL.run1 (pure_assign rfl) rfl ?_
  refine TL.nil' ?_
  refine TC.seq ?_
  refine TC.region ?_
  refine TL.run1 (pure_move rfl) rfl ?_
  refine TL.run1 (pure_move rfl) rfl ?_
  refine TL.run1 (pure_neq rfl rfl) rfl ?_
  refine TL.run1 (pure_assign rfl) rfl ?_
  refine TL.nil' ?_
  refine TC.ret ?_
  exact ret_bool rfl (by simp)
set_option maxRecDepth 100000 in
theorem isNaN2_spec (x : Int) : Fun Tryd.prog 56 [.v (.int .i64 x)] (.v (.bool false)) := by
  refine Fun.enter (n := 6) (rs := [.tmp 2]) Tryd.func56 rfl Tryd.ntmps56 Tryd.results56 rfl (fun w F => ?_)
  refine TC.seq ?_
  refine TC.region ?_
  refine TL.run1 (pure_assign rfl) rfl ?_
  refine TL.nil' ?_
  refine TC.seq ?_
  refine TC.region ?_
  refine TL.run1 (pure_move rfl) rfl ?_
  refine TL.run1 (pure_move rfl) rfl ?_
  refine TL.run1 (pure_neq rfl rfl) rfl ?_
  refine TL.run1 (pure_assign rfl) rfl ?_
  refine TL.nil' ?_
  refine TC.ret ?_
  exact ret_bool rfl (by simp)
set_option maxRecDepth 100000 in
theorem Less_spec (x y : Int) : Fun Tryd.prog 55 [.v (.int .i64 x), .v (.int .i64 y)] (.v (.bool (decide (x < y)))) := by
  refine Fun.enter (n := 17) (rs := [.tmp 4]) Tryd.func55 rfl Tryd.ntmps55 Tryd.results55 rfl (fun w F => ?_)
  refine TC.seq ?_
  refine TC.region ?_
  refine TL.run1 (pure_assign rfl) rfl ?_
  refine TL.nil' ?_
  refine TC.regionCut [5, 6, 7, 8, 9, 10, 11, 12, 13, 14, 15, 16, 4] 4 (x < y) ?_ ?_
  · skip
    refine TL.run1 (pure_move rfl) rfl ?_
    first | refine TL.run1 (pure_call (isNaN_spec x) (.cons rfl .nil) Tryd.call59) rfl ?_ | refine TL.run1 (pure_call (isNaN_spec y) (.cons rfl .nil) Tryd.call59) rfl ?_
    refine TL.run1 (pure_move rfl) rfl ?_
    first | refine TL.splitP 7 rfl (fun hg7 => ?_) (fun hg7 => ?_) | refine TL.split 7 rfl (fun hg7 => ?_) (fun hg7 => ?_)
    · try dsimp only at hg7
      refine TL.runG rfl rfl (pure_move rfl) rfl ?_
      first | refine TL.runG rfl rfl (pure_call (isNaN_spec x) (.cons rfl .nil) Tryd.call59) rfl ?_ | refine TL.runG rfl rfl (pure_call (isNaN_spec y) (.cons rfl .nil) Tryd.call59) rfl ?_
      refine TL.runG rfl rfl (pure_not rfl) rfl ?_
      refine TL.run1 (pure_pick_true rfl rfl) rfl ?_
      refine TL.run1 (pure_move rfl) rfl ?_
      first | refine TL.splitP 12 rfl (fun hg12 => ?_) (fun hg12 => ?_) | refine TL.split 12 rfl (fun hg12 => ?_) (fun hg12 => ?_)
      · try dsimp only at hg12
        refine TL.passG rfl rfl rfl rfl ?_
        refine TL.passG rfl rfl rfl rfl ?_
        refine TL.passG rfl rfl rfl rfl ?_
        refine TL.run1 (pure_pick_true rfl rfl) rfl ?_
        refine TL.run1 (pure_assign rfl) rfl ?_
        refine TL.cutEnd (by repeat (first | exact Same.refl _ _ | refine Same.put rfl ?_)) rfl ?_
        first | (cases hg7; done) | (simp; done) | (simp_all; done)
      · try dsimp only at hg12
        refine TL.runG rfl rfl (pure_move rfl) rfl ?_
        refine TL.runG rfl rfl (pure_move rfl) rfl ?_
        refine TL.runG rfl rfl (pure_lss rfl rfl) rfl ?_
        refine TL.run1 (pure_pick_false rfl rfl) rfl ?_
        refine TL.run1 (pure_assign rfl) rfl ?_
        refine TL.cutEnd (by repeat (first | exact Same.refl _ _ | refine Same.put rfl ?_)) rfl ?_
        first | (cases hg7; done) | (simp; done) | (simp_all; done)
    · try dsimp only at hg7
      refine TL.passG rfl rfl rfl rfl ?_
      refine TL.passG rfl rfl rfl rfl ?_
      refine TL.passG rfl rfl rfl rfl ?_
      refine TL.run1 (pure_pick_false rfl rfl) rfl ?_
      refine TL.run1 (pure_move rfl) rfl ?_
      refine TL.runG rfl rfl (pure_move rfl) rfl ?_
      refine TL.runG rfl rfl (pure_move rfl) rfl ?_
      refine TL.runG rfl rfl (pure_lss rfl rfl) rfl ?_
      refine TL.run1 (pure_pick_false rfl rfl) rfl ?_
      refine TL.run1 (pure_assign rfl) rfl ?_
      refine TL.cutEnd (by repeat (first | exact Same.refl _ _ | refine Same.put rfl ?_)) rfl ?_
      first | (cases hg7; done) | (simp; done) | (simp_all; done)
  refine TC.ret ?_
  exact ret_bool rfl rfl
set_option maxRecDepth 100000 in
theorem BinarySearch_spec (l : List Int) (x : Int) (hi : Inc l) (hl : l.length ≤ 2000000000) : Fun Tryd.prog 43 [.sl 1 (encI l), .v (.int .i64 x)] (.tup [.v (.int .i64 (lbI l x : Int)), .v (.bool (inI l x))]) := by
  refine Fun.enter (n := 54) (rs := [.tmp 4, .tmp 5]) Tryd.func43 rfl Tryd.ntmps43 Tryd.results43 rfl (fun w F => ?_)
  have hk := encI_len l
  have hle := lbI_le l x
  refine TC.seq ?_
  refine TC.region ?_
  refine TL.run1 (pure_assign rfl) rfl ?_
  refine TL.run1 (pure_assign rfl) rfl ?_
  refine TL.nil' ?_
  refine TC.seq ?_
  refine TC.region ?_
  refine TL.run1 (pure_move rfl) rfl ?_
  first | refine TL.run1 (pure_len Ty.sl26 rfl) rfl ?_ | refine TL.run1 (pure_len_row Ty.sl26 rfl (by repeat (first | exact List.Mem.head _ | apply List.Mem.tail))) rfl ?_ | refine TL.run1 (pure_len_nil Ty.sl26 rfl) rfl ?_
  refine TL.run1 (pure_assign rfl) rfl ?_
  refine TL.nil' ?_
  refine TC.seq ?_
  refine TC.region ?_
  refine TL.run1 (pure_move rfl) rfl ?_
  refine TL.run1 (pure_assign rfl) rfl ?_
  refine TL.run1 (pure_assign rfl) rfl ?_
  refine TL.nil' ?_
  refine TC.seq ?_
  refine TC.block ?_
  refine TC.loopX (X := Int × Int) (fun (i, j) => [(0, .sl 1 (encI l)), (1, .v (.int .i64 x)), (6, .v (.int .i64 l.length)), (7, .v (.int .i64 i)), (8, .v (.int .i64 j))]) (fun (i, j) => []) (fun (i, j) => (0 ≤ i) ∧ (i ≤ (lbI l x : Int)) ∧ ((lbI l x : Int) ≤ j) ∧ (j ≤ l.length)) (fun (i, j) => (j - i).toNat) (0, l.length) ⟨by (try dsimp only); rw [← hk]; repeat (first | exact Agree.nil | refine Agree.cons rfl ?_), by skip; repeat (first | exact List.nil_sublist _ | exact List.Sublist.refl _ | apply List.Sublist.cons_cons | apply List.Sublist.cons)⟩ ?_ ?_
  · skip
    exact ⟨by omega, by omega, by omega, by omega⟩
  rintro ⟨i, j⟩
  rintro ⟨k0, k1, k2, k3⟩
  show TC _ _ _ (Env.of [(0, .sl 1 (encI l)), (1, .v (.int .i64 x)), (6, .v (.int .i64 l.length)), (7, .v (.int .i64 i)), (8, .v (.int .i64 j))]) []
  refine TC.seq ?_
  refine TC.seq ?_
  refine TC.region ?_
  refine TL.run1 (pure_move rfl) rfl ?_
  refine TL.run1 (pure_move rfl) rfl ?_
  refine TL.run1 (pure_lss rfl rfl) rfl ?_
  refine TL.nil' ?_
  first | refine TC.condD rfl (fun hc15 => ?_) (fun hc15 => ?_) | refine TC.condN rfl (fun hc15 => ?_) (fun hc15 => ?_) | refine TC.cond rfl (fun hc15 => ?_) (fun hc15 => ?_)
  · try dsimp only at hc15
    refine TC.skip' ?_
    refine TC.block ?_
    refine TC.seq ?_
    refine TC.region ?_
    refine TL.run1 (pure_move rfl) rfl ?_
    refine TL.run1 (pure_move rfl) rfl ?_
    refine TL.run1 (pure_add rfl rfl (mkI64 (by omega) (by omega))) rfl ?_
    refine TL.run1 (pure_conv Tryd.underlying3 Tryd.underlying80 rfl (fit_u64 (by omega) (by omega))) rfl ?_
    refine TL.run1 (pure_shrl (m := 2) (by rfl) rfl rfl (by decide) (by decide)) rfl ?_
    refine TL.run1 (pure_conv Tryd.underlying80 Tryd.underlying3 rfl (fit_i64 (by omega) (by omega))) rfl ?_
    refine TL.run1 (pure_assign rfl) rfl ?_
    refine TL.nil' ?_
    refine TC.seq ?_
    have hb : 0 ≤ ((i + j) / 2) ∧ ((i + j) / 2) < j ∧ i ≤ ((i + j) / 2) := by omega
    have hrow := encI_get l ((i + j) / 2) (by omega) (by omega)
    refine TC.region ?_
    refine TL.run1 (pure_move rfl) rfl ?_
    refine TL.run1 (pure_move rfl) rfl ?_
    refine TL.run1 (pure_indexAddr Ty.sl26 rfl rfl (by omega) (by assumption) (List.cons_ne_nil _ _)) rfl ?_
    first | refine TL.run1 (pure_load1 Ty.one3 rfl) rfl ?_ | refine TL.run1 (pure_load1_own Ty.one3 rfl (by repeat (first | exact List.Mem.head _ | apply List.Mem.tail)) (by repeat (first | exact DropR.zero _ | apply DropR.succ))) rfl ?_
    refine TL.run1 (pure_move rfl) rfl ?_
    refine TL.run1 (pure_call (Less_spec _ _) (.cons rfl (.cons rfl .nil)) Tryd.call55) rfl ?_
    refine TL.nil' ?_
    first | refine TC.condD rfl (fun hc27 => ?_) (fun hc27 => ?_) | refine TC.condN rfl (fun hc27 => ?_) (fun hc27 => ?_) | refine TC.cond rfl (fun hc27 => ?_) (fun hc27 => ?_)
    · try dsimp only at hc27
      refine TC.region ?_
      refine TL.run1 (pure_move rfl) rfl ?_
      refine TL.run1 (pure_add rfl rfl (mkI64 (by omega) (by omega))) rfl ?_
      refine TL.run1 (pure_assign rfl) rfl ?_
      refine TL.nil ?_
      refine block_normal ?_
      have hnr : ((i + j) / 2) < (lbI l x : Int) := by rcases Int.lt_or_le ((i + j) / 2) (lbI l x : Int) with h | h; exact h; exact absurd (lb_hi hi x ((i + j) / 2).toNat (by omega) (by omega)) (by rw [kAt_iAt l ((i + j) / 2) (by omega)]; omega)
      refine loop_next (((i + j) / 2) + 1, j) ⟨by repeat (first | exact Agree.nil | refine Agree.cons rfl ?_), by repeat (first | exact List.nil_sublist _ | exact List.Sublist.refl _ | apply List.Sublist.cons_cons | apply List.Sublist.cons)⟩ ⟨by omega, by omega, by omega, by omega⟩ (by dsimp only; omega)
    · try dsimp only at hc27
      refine TC.region ?_
      refine TL.run1 (pure_move rfl) rfl ?_
      refine TL.run1 (pure_assign rfl) rfl ?_
      refine TL.nil ?_
      refine block_normal ?_
      have hnr : (lbI l x : Int) ≤ ((i + j) / 2) := by rcases Int.lt_or_le ((i + j) / 2) (lbI l x : Int) with h | h; exact absurd (lb_lo l x ((i + j) / 2).toNat (by omega)) (by rw [kAt_iAt l ((i + j) / 2) (by omega)]; omega); exact h
      refine loop_next (i, ((i + j) / 2)) ⟨by repeat (first | exact Agree.nil | refine Agree.cons rfl ?_), by repeat (first | exact List.nil_sublist _ | exact List.Sublist.refl _ | apply List.Sublist.cons_cons | apply List.Sublist.cons)⟩ ⟨by omega, by omega, by omega, by omega⟩ (by dsimp only; omega)
  · try dsimp only at hc15
    refine TC.exit ?_
    refine then_exit ?_
    refine loop_exit ?_
    refine block_here ?_
    refine then_normal ?_
    refine TC.seq ?_
    refine TC.region ?_
    refine TL.run1 (pure_move rfl) rfl ?_
    refine TL.run1 (pure_move rfl) rfl ?_
    refine TL.run1 (pure_move rfl) rfl ?_
    refine TL.run1 (pure_lss rfl rfl) rfl ?_
    refine TL.run1 (pure_move rfl) rfl ?_
    first | refine TL.splitP 35 rfl (fun hg35 => ?_) (fun hg35 => ?_) | refine TL.split 35 rfl (fun hg35 => ?_) (fun hg35 => ?_)
    · try dsimp only at hg35
      have hrow := encI_get l i (by omega) (by omega)
      refine TL.runG rfl rfl (pure_move rfl) rfl ?_
      refine TL.runG rfl rfl (pure_move rfl) rfl ?_
      refine TL.runG rfl rfl (pure_indexAddr Ty.sl26 rfl rfl (by omega) (by assumption) (List.cons_ne_nil _ _)) rfl ?_
      first | refine TL.runG rfl rfl (pure_load1 Ty.one3 rfl) rfl ?_ | refine TL.runG rfl rfl (pure_load1_own Ty.one3 rfl (by repeat (first | exact List.Mem.head _ | apply List.Mem.tail)) (by repeat (first | exact DropR.zero _ | apply DropR.succ))) rfl ?_
      refine TL.runG rfl rfl (pure_move rfl) rfl ?_
      refine TL.runG rfl rfl (pure_eql rfl rfl) rfl ?_
      refine TL.runG rfl rfl (pure_move rfl) rfl ?_
      first | refine TL.splitP 42 rfl (fun hg42 => ?_) (fun hg42 => ?_) | refine TL.split 42 rfl (fun hg42 => ?_) (fun hg42 => ?_)
      · try dsimp only at hg42
        refine TL.passG rfl rfl rfl rfl ?_
        refine TL.passG rfl rfl rfl rfl ?_
        refine TL.passG rfl rfl rfl rfl ?_
        refine TL.passG rfl rfl rfl rfl ?_
        refine TL.passG rfl rfl rfl rfl ?_
        refine TL.passG rfl rfl rfl rfl ?_
        refine TL.passG rfl rfl rfl rfl ?_
        refine TL.passG rfl rfl rfl rfl ?_
        refine TL.passG rfl rfl rfl rfl ?_
        refine TL.runG rfl rfl (pure_pick_true rfl rfl) rfl ?_
        refine TL.run1 (pure_pick_true rfl rfl) rfl ?_
        refine TL.run1 (pure_assign rfl) rfl ?_
        refine TL.run1 (pure_assign rfl) rfl ?_
        refine TL.nil' ?_
        refine TC.ret ?_
        have hij : i = (lbI l x : Int) := by omega
        have hin : inI l x = decide (i < l.length ∧ iAt l i = x) := by (unfold inI; rw [decide_eq_decide, hij, Int.ofNat_lt]; rfl)
        refine ret2 (.inl rfl) rfl rfl ?_
        rw [hin, ← hij]
        first | (simp only [decide_true, decide_false]; simp_all; done) | (simp_all; done) | grind
      · try dsimp only at hg42
        refine TL.runG rfl rfl (pure_move rfl) rfl ?_
        refine TL.runG rfl rfl (pure_move rfl) rfl ?_
        refine TL.runG rfl rfl (pure_indexAddr Ty.sl26 rfl rfl (by omega) (by assumption) (List.cons_ne_nil _ _)) rfl ?_
        first | refine TL.runG rfl rfl (pure_load1 Ty.one3 rfl) rfl ?_ | refine TL.runG rfl rfl (pure_load1_own Ty.one3 rfl (by repeat (first | exact List.Mem.head _ | apply List.Mem.tail)) (by repeat (first | exact DropR.zero _ | apply DropR.succ))) rfl ?_
        first | refine TL.runG rfl rfl (pure_call (isNaN2_spec (iAt l i)) (.cons rfl .nil) Tryd.call56) rfl ?_ | refine TL.runG rfl rfl (pure_call (isNaN2_spec x) (.cons rfl .nil) Tryd.call56) rfl ?_
        refine TL.runG rfl rfl (pure_move rfl) rfl ?_
        first | refine TL.splitP 48 rfl (fun hg48 => ?_) (fun hg48 => ?_) | refine TL.split 48 rfl (fun hg48 => ?_) (fun hg48 => ?_)
        · try dsimp only at hg48
          refine TL.runG rfl rfl (pure_move rfl) rfl ?_
          first | refine TL.runG rfl rfl (pure_call (isNaN2_spec (iAt l i)) (.cons rfl .nil) Tryd.call56) rfl ?_ | refine TL.runG rfl rfl (pure_call (isNaN2_spec x) (.cons rfl .nil) Tryd.call56) rfl ?_
          refine TL.runG rfl rfl (pure_pick_true rfl rfl) rfl ?_
          refine TL.runG rfl rfl (pure_pick_false rfl rfl) rfl ?_
          refine TL.run1 (pure_pick_true rfl rfl) rfl ?_
          refine TL.run1 (pure_assign rfl) rfl ?_
          refine TL.run1 (pure_assign rfl) rfl ?_
          refine TL.nil' ?_
          refine TC.ret ?_
          have hij : i = (lbI l x : Int) := by omega
          have hin : inI l x = decide (i < l.length ∧ iAt l i = x) := by (unfold inI; rw [decide_eq_decide, hij, Int.ofNat_lt]; rfl)
          refine ret2 (.inl rfl) rfl rfl ?_
          rw [hin, ← hij]
          first | (simp only [decide_true, decide_false]; simp_all; done) | (simp_all; done) | grind
        · try dsimp only at hg48
          refine TL.passG rfl rfl rfl rfl ?_
          refine TL.passG rfl rfl rfl rfl ?_
          refine TL.runG rfl rfl (pure_pick_false rfl rfl) rfl ?_
          refine TL.runG rfl rfl (pure_pick_false rfl rfl) rfl ?_
          refine TL.run1 (pure_pick_true rfl rfl) rfl ?_
          refine TL.run1 (pure_assign rfl) rfl ?_
          refine TL.run1 (pure_assign rfl) rfl ?_
          refine TL.nil' ?_
          refine TC.ret ?_
          have hij : i = (lbI l x : Int) := by omega
          have hin : inI l x = decide (i < l.length ∧ iAt l i = x) := by (unfold inI; rw [decide_eq_decide, hij, Int.ofNat_lt]; rfl)
          refine ret2 (.inl rfl) rfl rfl ?_
          rw [hin, ← hij]
          first | (simp only [decide_true, decide_false]; simp_all; done) | (simp_all; done) | grind
    · try dsimp only at hg35
      refine TL.passG rfl rfl rfl rfl ?_
      refine TL.passG rfl rfl rfl rfl ?_
      refine TL.passG rfl rfl rfl rfl ?_
      refine TL.passG rfl rfl rfl rfl ?_
      refine TL.passG rfl rfl rfl rfl ?_
      refine TL.passG rfl rfl rfl rfl ?_
      refine TL.passG rfl rfl rfl rfl ?_
      refine TL.passG rfl rfl rfl rfl ?_
      refine TL.passG rfl rfl rfl rfl ?_
      refine TL.passG rfl rfl rfl rfl ?_
      refine TL.passG rfl rfl rfl rfl ?_
      refine TL.passG rfl rfl rfl rfl ?_
      refine TL.passG rfl rfl rfl rfl ?_
      refine TL.passG rfl rfl rfl rfl ?_
      refine TL.passG rfl rfl rfl rfl ?_
      refine TL.passG rfl rfl rfl rfl ?_
      refine TL.passG rfl rfl rfl rfl ?_
      refine TL.run1 (pure_pick_false rfl rfl) rfl ?_
      refine TL.run1 (pure_assign rfl) rfl ?_
      refine TL.run1 (pure_assign rfl) rfl ?_
      refine TL.nil' ?_
      refine TC.ret ?_
      have hij : i = (lbI l x : Int) := by omega
      have hin : inI l x = decide (i < l.length ∧ iAt l i = x) := by (unfold inI; rw [decide_eq_decide, hij, Int.ofNat_lt]; rfl)
      refine ret2 (.inl rfl) rfl rfl ?_
      rw [hin, ← hij]
      first | (simp only [decide_true, decide_false]; simp_all; done) | (simp_all; done) | grind
end Go.Ob
