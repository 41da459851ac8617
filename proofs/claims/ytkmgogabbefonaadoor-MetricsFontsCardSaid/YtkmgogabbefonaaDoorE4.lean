import Derived.Test.YtkmgogabbefonaaDoorE3
import Derived.Test.YtkmgogabbefonaaDoorE2
import Derived.Test.YtkmgogabbefonaaDoorN2
set_option linter.unusedVariables false
set_option linter.unusedSimpArgs false
namespace Go.Ob
open Go.Proofs

theorem okV {s : ByteArray} (h : okS s = true) : True ∧ True ∧ bndV s = bnds (cls s) ∧ cluV s = clS s ∧ errU s = 0 := by
  unfold bndV cluV errU; rw [h]; exact ⟨trivial, trivial, rfl, rfl, rfl⟩
theorem badV {s : ByteArray} (h : okS s = false) : True ∧ True ∧ bndV s = [] ∧ cluV s = [] ∧ errU s = 12 := by
  unfold bndV cluV errU; rw [h]; exact ⟨trivial, trivial, rfl, rfl, rfl⟩

theorem clS_len (s : ByteArray) : (clS s).length = (cAll (cls s)).length := by simp [clS]
theorem tAt_clS (s : ByteArray) (i : Int) (h0 : 0 ≤ i) (h1 : i < (cAll (cls s)).length) : tAt (clS s) i = subS s ((cAll (cls s)).getD i.toNat (0, 0)) := by
  have : i.toNat < (cAll (cls s)).length := by omega
  simp [tAt, clS, this]
theorem cAll_getD_mem (c : List Int) (i : Nat) (h : i < (cAll c).length) : (cAll c).getD i (0, 0) ∈ cAll c := by
  rw [List.getD_eq_getElem?_getD, List.getElem?_eq_getElem h]
  exact List.getElem_mem h
theorem sub_count {s : ByteArray} (hok : okS s = true) {p : Nat × Nat} (hp : p ∈ cAll (cls s)) : (cluV (subS s p)).length = 1 ∧ errU (subS s p) = 0 := by
  obtain ⟨h1, h2, h3⟩ := cAll_mem hp
  rw [cls_len] at h2
  have ho := okS_sub hok (Nat.le_of_lt h3) h2
  obtain ⟨_, _, _, v4, v5⟩ := okV ho
  unfold subS
  rw [v4, v5, clS_len, cls_sub hok (Nat.le_of_lt h3) h2]
  exact ⟨cluster_one hp, rfl⟩
theorem subS_size (s : ByteArray) (p : Nat × Nat) : (subS s p).size ≤ s.size := by unfold subS; rw [ByteArray.size_extract]; omega

theorem tAt_mem (l : List ByteArray) (i : Int) (h0 : 0 ≤ i) (h1 : i < l.length) : tAt l i ∈ l := by
  unfold tAt
  rw [List.getD_eq_getElem?_getD, List.getElem?_eq_getElem (by omega)]
  exact List.getElem_mem _
/-- the widths of the first clusters -/
def wS (f : Fo) (l : List ByteArray) : Nat → Int
  | 0 => 0
  | k + 1 => wS f l k + (krP f (if k = 0 then ⟨#[]⟩ else tAt l ((k : Int) - 1)) (tAt l k) + widP f (tAt l k))
theorem wS_range {f : Fo} (hf : ¬ FBad f) (l : List ByteArray) : ∀ k : Nat, -(32761 * (k : Int)) ≤ wS f l k ∧ wS f l k ≤ 32761 * (k : Int)
  | 0 => by rw [wS]; omega
  | k + 1 => by
    have ih := wS_range hf l k
    have h1 := krP_range hf (if k = 0 then ⟨#[]⟩ else tAt l ((k : Int) - 1)) (tAt l k)
    have h2 := widP_range hf (tAt l k)
    rw [wS]; omega
def offP (f : Fo) (l : List ByteArray) : List Int := (List.range (l.length + 1)).map (wS f l)
theorem offP_len (f : Fo) (l : List ByteArray) : (offP f l).length = l.length + 1 := by simp [offP]
theorem offP_get (f : Fo) (l : List ByteArray) (k : Nat) (h : k ≤ l.length) : (encI (offP f l))[k]? = some [.v (.int .i64 (wS f l k))] := by
  simp [encI, offP, show k < l.length + 1 by omega]
theorem iAt_offP (f : Fo) (l : List ByteArray) (k : Nat) (h : k ≤ l.length) : iAt (offP f l) k = wS f l k := by
  unfold iAt offP
  rw [Int.toNat_natCast]
  simp [List.getD_eq_getElem?_getD, show k < l.length + 1 by omega]
theorem offP_mem (f : Fo) (l : List ByteArray) {k : Nat} {x : List D} (h : (encI (offP f l))[k]? = some x) : k ≤ l.length ∧ x = [.v (.int .i64 (wS f l k))] := by
  have hk : k < (encI (offP f l)).length := (List.getElem?_eq_some_iff.1 h).1
  rw [encI_len, offP_len] at hk
  rw [offP_get f l k (by omega)] at h
  exact ⟨by omega, (Option.some.inj h).symm⟩
theorem offP_take (f : Fo) (l : List ByteArray) (k : Nat) (h : k ≤ l.length) : (offP f l).take (k + 1) = (offP f l).take k ++ [wS f l k] := by
  refine take_get ?_
  simp [offP, show k < l.length + 1 by omega]
theorem sub_ok {s : ByteArray} (hok : okS s = true) {p : Nat × Nat} (hp : p ∈ cAll (cls s)) : okS (subS s p) = true := by
  obtain ⟨h1, h2, h3⟩ := cAll_mem hp
  rw [cls_len] at h2
  exact okS_sub hok (Nat.le_of_lt h3) h2
theorem clu_mem {s c : ByteArray} (hok : okS s = true) (hc : c ∈ cluV s) : okS c = true ∧ c.size ≤ s.size ∧ (cluV c).length = 1 := by
  rw [(okV hok).2.2.2.1] at hc
  unfold clS at hc
  obtain ⟨p, hp, rfl⟩ := List.mem_map.1 hc
  exact ⟨sub_ok hok hp, subS_size s p, (sub_count hok hp).1⟩
theorem cluV_len (s : ByteArray) : (cluV s).length ≤ s.size + 1 := by
  unfold cluV
  split
  · rw [clS_len]
    have := cAll_len_le (cls s)
    rw [cls_len] at this
    have := nR_le s
    omega
  · exact Nat.zero_le _
theorem chkV_zero {f : Fo} {l : List ByteArray} (h : chkV f l = 0) : ¬ FBad f ∧ ∀ s ∈ l, okS s = true := by
  unfold chkV at h
  by_cases h1 : FBad f
  · rw [if_pos h1] at h; omega
  · rw [if_neg h1] at h
    refine ⟨h1, ?_⟩
    by_cases h2 : ∀ s ∈ l, okS s = true
    · exact h2
    · rw [if_neg h2] at h; omega
def offV (f : Fo) (s : ByteArray) : List Int := if chkV f [s] = 0 then offP f (cluV s) else []
def txtV (f : Fo) (s : ByteArray) : Int := if chkV f [s] = 0 then wS f (cluV s) (cluV s).length else 0
set_option maxRecDepth 100000 in
theorem checked_spec (f : Fo) (l : List ByteArray) (hl : l.length ≤ 1000) (hs : ∀ s ∈ l, s.size ≤ 1000000000) : Fun Tryd.prog 32 [.agg [.v (.int .i64 f.face), .v (.int .i64 f.size), .v (.int .i64 f.raise), .v (.bool f.bold)], .sl 1 (encT l)] (.v (.int .i64 (chkV f l))) := by
  refine Fun.enter (n := 23) (rs := [.tmp 4]) Tryd.func32 rfl Tryd.ntmps32 Tryd.results32 rfl (fun w F => ?_)
  have hkl := encT_len l
  refine TC.seq ?_
  refine TC.region ?_
  refine TL.box rfl (.agg _) rfl (fun g2 => ?_)
  refine TL.run1 (pure_assign rfl) rfl ?_
  refine TL.nil' ?_
  refine TC.seq ?_
  refine TC.seq ?_
  refine TC.region ?_
  first | refine TL.run1 (pure_load Ty.agg23 rfl (.succ (.succ (.succ (.succ (.zero _)))))) rfl ?_ | refine TL.run1 (pure_load_own Ty.agg23 rfl (by repeat (first | exact List.Mem.head _ | apply List.Mem.tail)) (by repeat (first | exact DropR.zero _ | apply DropR.succ)) (.succ (.succ (.succ (.succ (.zero _)))))) rfl ?_
  refine TL.run1 (pure_call (Check_spec f) (.cons rfl .nil) Tryd.call31) rfl ?_
  refine TL.run1 (pure_assign rfl) rfl ?_
  refine TL.nil' ?_
  refine TC.seq ?_
  refine TC.region ?_
  refine TL.run1 (pure_move rfl) rfl ?_
  refine TL.run1 (pure_neq rfl rfl) rfl ?_
  refine TL.nil' ?_
  first | refine TC.condD rfl (fun hc11 => ?_) (fun hc11 => ?_) | refine TC.condN rfl (fun hc11 => ?_) (fun hc11 => ?_) | refine TC.cond rfl (fun hc11 => ?_) (fun hc11 => ?_)
  · try dsimp only at hc11
    have hfb : FBad f := by (unfold errF at hc11; by_cases h : FBad f; exact h; rw [if_neg h] at hc11; exact absurd rfl hc11)
    refine TC.seq ?_
    refine TC.region ?_
    refine TL.run1 (pure_move rfl) rfl ?_
    refine TL.run1 (pure_assign rfl) rfl ?_
    refine TL.nil' ?_
    refine TC.ret ?_
    refine then_ret ?_
    exact ret_int rfl (by unfold chkV errF; rw [if_pos hfb, if_pos hfb])
  · try dsimp only at hc11
    have hfb : ¬ FBad f := by (unfold errF at hc11; intro h; rw [if_pos h] at hc11; exact hc11 (by decide))
    refine TC.skip' ?_
    refine TC.seq ?_
    refine TC.seq ?_
    refine TC.region ?_
    refine TL.run1 (pure_move rfl) rfl ?_
    first | refine TL.run1 (pure_len Ty.sl29 rfl) rfl ?_ | refine TL.run1 (pure_len_row Ty.sl29 rfl (by repeat (first | exact List.Mem.head _ | apply List.Mem.tail))) rfl ?_ | refine TL.run1 (pure_len_nil Ty.sl29 rfl) rfl ?_
    refine TL.run1 (pure_move rfl) rfl ?_
    refine TL.nil' ?_
    refine TC.block ?_
    refine TC.loopX (X := Int) (fun i => [(13, .sl 1 (encT l)), (14, .v (.int .i64 (encT l).length)), (15, .v (.int .i64 i))]) (fun i => []) (fun i => (0 ≤ i) ∧ (i ≤ l.length) ∧ (∀ j : Nat, (j : Int) < i → okS (tAt l j) = true)) (fun i => (l.length - i).toNat) (0) ⟨by skip; repeat (first | exact Agree.nil | refine Agree.cons rfl ?_), by skip; repeat (first | exact List.nil_sublist _ | exact List.Sublist.refl _ | apply List.Sublist.cons_cons | apply List.Sublist.cons)⟩ ?_ ?_
    · skip
      exact ⟨by omega, by omega, fun j hj => by omega⟩
    intro i
    rintro ⟨h0, h1, h2⟩
    show TC _ _ _ (Env.of [(13, .sl 1 (encT l)), (14, .v (.int .i64 (encT l).length)), (15, .v (.int .i64 i))]) []
    refine TC.seq ?_
    refine TC.region ?_
    refine TL.run1 (pure_lss rfl rfl) rfl ?_
    refine TL.nil' ?_
    refine TC.seq ?_
    first | refine TC.condD rfl (fun hc16 => ?_) (fun hc16 => ?_) | refine TC.condN rfl (fun hc16 => ?_) (fun hc16 => ?_) | refine TC.cond rfl (fun hc16 => ?_) (fun hc16 => ?_)
    · try dsimp only at hc16
      refine TC.skip' ?_
      refine TC.seq ?_
      refine TC.block ?_
      refine TC.seq ?_
      have hrow := encT_get l i h0 (by omega)
      refine TC.region ?_
      refine TL.run1 (pure_indexAddr Ty.sl29 rfl rfl (by omega) (by assumption) (List.cons_ne_nil _ _)) rfl ?_
      first | refine TL.run1 (pure_load1 Ty.one9 rfl) rfl ?_ | refine TL.run1 (pure_load1_own Ty.one9 rfl (by repeat (first | exact List.Mem.head _ | apply List.Mem.tail)) (by repeat (first | exact DropR.zero _ | apply DropR.succ))) rfl ?_
      refine TL.run1 (pure_assign rfl) rfl ?_
      refine TL.nil' ?_
      refine TC.seq ?_
      refine TC.region ?_
      refine TL.run1 (pure_move rfl) rfl ?_
      refine TL.run1 (pure_call (Valid_spec (tAt l i) (hs _ (tAt_mem l i h0 (by omega)))) (.cons rfl .nil) Tryd.call45) rfl ?_
      refine TL.run1 (pure_not rfl) rfl ?_
      refine TL.nil' ?_
      first | refine TC.condD rfl (fun hc21 => ?_) (fun hc21 => ?_) | refine TC.condN rfl (fun hc21 => ?_) (fun hc21 => ?_) | refine TC.cond rfl (fun hc21 => ?_) (fun hc21 => ?_)
      · try dsimp only at hc21
        have hbi : okS (tAt l i) = false := decide_eq_false hc21
        refine TC.seq ?_
        refine TC.region ?_
        refine TL.run1 (pure_assign rfl) rfl ?_
        refine TL.nil' ?_
        refine TC.ret ?_
        refine block_ret ?_
        refine then_ret ?_
        refine loop_ret ?_
        refine block_ret ?_
        refine then_ret ?_
        exact ret_int rfl (by unfold chkV; rw [if_neg hfb, if_neg (fun h => by rw [h _ (tAt_mem l i h0 (by omega))] at hbi; cases hbi)])
      · try dsimp only at hc21
        have hoi : okS (tAt l i) = true := decide_eq_true hc21
        refine TC.skip ?_
        refine block_normal ?_
        refine then_normal ?_
        refine TC.region ?_
        refine TL.run1 (pure_add rfl rfl (mkI64 (by omega) (by omega))) rfl ?_
        refine TL.run1 (pure_move rfl) rfl ?_
        refine TL.nil ?_
        refine loop_next (i + 1) ⟨by repeat (first | exact Agree.nil | refine Agree.cons rfl ?_), by repeat (first | exact List.nil_sublist _ | exact List.Sublist.refl _ | apply List.Sublist.cons_cons | apply List.Sublist.cons)⟩ ⟨by omega, by omega, fun j hj => by rcases Int.lt_or_eq_of_le (show (j : Int) ≤ i by omega) with h | h; exact h2 j h; rw [h]; exact hoi⟩ (by omega)
    · try dsimp only at hc16
      refine TC.exit ?_
      refine then_exit ?_
      refine loop_exit ?_
      refine block_here ?_
      refine then_normal ?_
      refine TC.seq ?_
      refine TC.region ?_
      refine TL.run1 (pure_assign rfl) rfl ?_
      refine TL.nil' ?_
      refine TC.ret ?_
      have hall : ∀ s ∈ l, okS s = true := by (intro s hsm; obtain ⟨j, hj, rfl⟩ := List.getElem_of_mem hsm; have h := h2 j (by omega); unfold tAt at h; rw [Int.toNat_natCast, List.getD_eq_getElem?_getD, List.getElem?_eq_getElem hj] at h; exact h)
      exact ret_int rfl (by unfold chkV; rw [if_neg hfb, if_pos hall])
set_option maxRecDepth 100000 in
theorem wid_seq (f : Fo) (s : ByteArray) (hf : ¬ FBad f) (hok : okS s = true) (hs : s.size ≤ 100000000) : SeqD Tryd.prog 58 [.at_ [.v (.string s)], .at_ [.v (.int .i64 f.face), .v (.int .i64 f.size), .v (.int .i64 f.raise), .v (.bool f.bold)]] (encI (offP f (cluV s))) := by
  refine SeqD.enter Tryd.func58 rfl Tryd.ntmps58 Tryd.results58 rfl (fun l J Jx w F H0 hJ0 hy => ?_)
  have hkl := encT_len (cluV s)
  have hcz := cluV_len s
  have hxn := offP_get f (cluV s) 0 (Nat.zero_le _)
  have hJ := hJ0
  obtain ⟨Hc, hHc⟩ : ∃ Hc, Hc = H0 := ⟨_, rfl⟩
  subst hHc
  refine TC.seq ?_
  refine TC.seq ?_
  refine TC.region ?_
  refine TL.run1 (pure_move rfl) rfl ?_
  refine TL.yield rfl (SplitR.all _) rfl (hy _ _ Hc hxn hJ) (.cons rfl .nil) (by intro t ht; cases ht; exact (by decide : (11 : Nat) < 40)) (fun bb H1 hR => ?_)
  refine TL.perm (H' := H1) (by simp) ?_
  refine TL.run1 (pure_not rfl) rfl ?_
  refine TL.nil' ?_
  first | refine TC.condD rfl (fun hc12 => ?_) (fun hc12 => ?_) | refine TC.condN rfl (fun hc12 => ?_) (fun hc12 => ?_) | refine TC.cond rfl (fun hc12 => ?_) (fun hc12 => ?_)
  · try dsimp only at hc12
    have hcy : bb = false := by simpa using hc12
    refine TC.ret ?_
    refine then_ret ?_
    exact ⟨.inl rfl, [], .nil, H1, List.Sublist.refl _, .inr ⟨_, by (have h := hR; simp only [hcy, Bool.false_eq_true, if_false] at h; exact h)⟩⟩
  · try dsimp only at hc12
    have hcy : bb = true := by simpa using hc12
    refine TC.skip' ?_
    refine TC.seq ?_
    refine TC.region ?_
    first | refine TL.run1 (pure_load1 Ty.one9 rfl) rfl ?_ | refine TL.run1 (pure_load1_own Ty.one9 rfl (by repeat (first | exact List.Mem.head _ | apply List.Mem.tail)) (by repeat (first | exact DropR.zero _ | apply DropR.succ))) rfl ?_
    refine TL.run1 (pure_call (Clusters_spec s (by omega)) (.cons rfl .nil) Tryd.call15) rfl ?_
    refine TL.run1 (pure_move rfl) rfl ?_
    refine TL.run1 (pure_extract rfl rfl) rfl ?_
    refine TL.run1 (pure_extract rfl rfl) rfl ?_
    refine TL.run1 (pure_assign rfl) rfl ?_
    refine TL.run1 (pure_assign rfl) rfl ?_
    refine TL.nil' ?_
    refine TC.seq ?_
    refine TC.region ?_
    refine TL.run1 (pure_assign rfl) rfl ?_
    refine TL.run1 (pure_assign rfl) rfl ?_
    refine TL.nil' ?_
    refine TC.seq ?_
    refine TC.region ?_
    refine TL.run1 (pure_move rfl) rfl ?_
    first | refine TL.run1 (pure_len Ty.sl29 rfl) rfl ?_ | refine TL.run1 (pure_len_row Ty.sl29 rfl (by repeat (first | exact List.Mem.head _ | apply List.Mem.tail))) rfl ?_ | refine TL.run1 (pure_len_nil Ty.sl29 rfl) rfl ?_
    refine TL.run1 (pure_move rfl) rfl ?_
    refine TL.nil' ?_
    refine TC.block ?_
    refine TC.loopX (X := Nat × Hp) (fun (k, Hc) => [(0, .v (.func (.yield l) #[] #[])), (1, .at_ [.v (.string s)]), (2, .at_ [.v (.int .i64 f.face), .v (.int .i64 f.size), .v (.int .i64 f.raise), .v (.bool f.bold)]), (6, .v (.int .i64 (wS f (cluV s) k))), (7, .v (.string (if k = 0 then ⟨#[]⟩ else tAt (cluV s) ((k : Int) - 1)))), (18, .sl 1 (encT (cluV s))), (19, .v (.int .i64 (encT (cluV s)).length)), (20, .v (.int .i64 k))]) (fun (k, Hc) => Hc) (fun (k, Hc) => (k ≤ (cluV s).length) ∧ (J (k + 1) Hc)) (fun (k, Hc) => (cluV s).length - k) (0, H1) ⟨by skip; repeat (first | exact Agree.nil | refine Agree.cons rfl ?_), by skip; repeat (first | exact List.nil_sublist _ | exact List.Sublist.refl _ | apply List.Sublist.cons_cons | apply List.Sublist.cons)⟩ ?_ ?_
    · skip
      exact ⟨Nat.zero_le _, by have h := hR; simp only [hcy, if_true] at h; exact h⟩
    rintro ⟨k, Hc⟩
    rintro ⟨hk, hJ⟩
    show TC _ _ _ (Env.of [(0, .v (.func (.yield l) #[] #[])), (1, .at_ [.v (.string s)]), (2, .at_ [.v (.int .i64 f.face), .v (.int .i64 f.size), .v (.int .i64 f.raise), .v (.bool f.bold)]), (6, .v (.int .i64 (wS f (cluV s) k))), (7, .v (.string (if k = 0 then ⟨#[]⟩ else tAt (cluV s) ((k : Int) - 1)))), (18, .sl 1 (encT (cluV s))), (19, .v (.int .i64 (encT (cluV s)).length)), (20, .v (.int .i64 k))]) Hc
    have hwr := wS_range hf (cluV s) k
    refine TC.seq ?_
    refine TC.region ?_
    refine TL.run1 (pure_lss rfl rfl) rfl ?_
    refine TL.nil' ?_
    refine TC.seq ?_
    first | refine TC.condD rfl (fun hc21 => ?_) (fun hc21 => ?_) | refine TC.condN rfl (fun hc21 => ?_) (fun hc21 => ?_) | refine TC.cond rfl (fun hc21 => ?_) (fun hc21 => ?_)
    · try dsimp only at hc21
      refine TC.skip' ?_
      refine TC.seq ?_
      refine TC.block ?_
      refine TC.seq ?_
      have hrow : (encT (cluV s))[((k : Nat) : Int).toNat]? = some [.v (.string (tAt (cluV s) k))] := encT_get (cluV s) k (by omega) (by omega)
      have hmem := tAt_mem (cluV s) k (by omega) (by omega)
      have hck := clu_mem hok hmem
      have hbz : (if k = 0 then ⟨#[]⟩ else tAt (cluV s) ((k : Int) - 1)).size ≤ s.size := by (by_cases h : k = 0; rw [if_pos h]; exact Nat.zero_le _; rw [if_neg h]; exact (clu_mem hok (tAt_mem (cluV s) ((k : Int) - 1) (by omega) (by omega))).2.1)
      have hab : (if k = 0 then ⟨#[]⟩ else tAt (cluV s) ((k : Int) - 1)).size + (tAt (cluV s) k).size ≤ 1000000000 := by omega
      have hkr := krP_range hf (if k = 0 then ⟨#[]⟩ else tAt (cluV s) ((k : Int) - 1)) (tAt (cluV s) k)
      have hwi := widP_range hf (tAt (cluV s) k)
      have hxn := offP_get f (cluV s) (k + 1) (by omega)
      refine TC.region ?_
      refine TL.run1 (pure_indexAddr Ty.sl29 rfl rfl (by omega) (by assumption) (List.cons_ne_nil _ _)) rfl ?_
      first | refine TL.run1 (pure_load1 Ty.one9 rfl) rfl ?_ | refine TL.run1 (pure_load1_own Ty.one9 rfl (by repeat (first | exact List.Mem.head _ | apply List.Mem.tail)) (by repeat (first | exact DropR.zero _ | apply DropR.succ))) rfl ?_
      refine TL.run1 (pure_assign rfl) rfl ?_
      refine TL.nil' ?_
      refine TC.seq ?_
      refine TC.draw Ty.follows (by kernel_rfl) ?_
      refine TD.run1 (pure_move rfl) rfl ?_
      first | refine TD.run1 (pure_load Ty.agg23 rfl (.succ (.succ (.succ (.succ (.zero _)))))) rfl ?_ | refine TD.run1 (pure_load_own Ty.agg23 rfl (by repeat (first | exact List.Mem.head _ | apply List.Mem.tail)) (by repeat (first | exact DropR.zero _ | apply DropR.succ)) (.succ (.succ (.succ (.succ (.zero _)))))) rfl ?_
      refine TD.run1 (pure_move rfl) rfl ?_
      refine TD.run1 (pure_move rfl) rfl ?_
      refine TD.run1 (pure_call (kern_spec f (if k = 0 then ⟨#[]⟩ else tAt (cluV s) ((k : Int) - 1)) (tAt (cluV s) k) hf hab) (.cons rfl (.cons rfl (.cons rfl .nil))) Tryd.call41) rfl ?_
      first | refine TD.run1 (pure_load Ty.agg23 rfl (.succ (.succ (.succ (.succ (.zero _)))))) rfl ?_ | refine TD.run1 (pure_load_own Ty.agg23 rfl (by repeat (first | exact List.Mem.head _ | apply List.Mem.tail)) (by repeat (first | exact DropR.zero _ | apply DropR.succ)) (.succ (.succ (.succ (.succ (.zero _)))))) rfl ?_
      refine TD.run1 (pure_move rfl) rfl ?_
      refine TD.run1 (pure_call (width_spec f (tAt (cluV s) k) hf hck.1 (by omega)) (.cons rfl (.cons rfl .nil)) Tryd.call34) rfl ?_
      refine TD.run1 (pure_add rfl rfl (mkI64 (by omega) (by omega))) rfl ?_
      refine TD.run1 (pure_add rfl rfl (mkI64 (by omega) (by omega))) rfl ?_
      refine TD.run1 (pure_assign rfl) rfl ?_
      refine TD.nil' ?_
      refine TC.seq ?_
      refine TC.region ?_
      refine TL.run1 (pure_move rfl) rfl ?_
      refine TL.run1 (pure_assign rfl) rfl ?_
      refine TL.nil' ?_
      refine TC.seq ?_
      refine TC.region ?_
      refine TL.run1 (pure_move rfl) rfl ?_
      refine TL.run1 (pure_move rfl) rfl ?_
      refine TL.yield rfl (SplitR.all _) rfl (hy _ _ Hc hxn hJ) (.cons rfl .nil) (by intro t ht; cases ht; exact (by decide : (37 : Nat) < 40)) (fun bb H1 hR => ?_)
      refine TL.perm (H' := H1) (by simp) ?_
      refine TL.run1 (pure_not rfl) rfl ?_
      refine TL.nil' ?_
      first | refine TC.condD rfl (fun hc38 => ?_) (fun hc38 => ?_) | refine TC.condN rfl (fun hc38 => ?_) (fun hc38 => ?_) | refine TC.cond rfl (fun hc38 => ?_) (fun hc38 => ?_)
      · try dsimp only at hc38
        have hcy : bb = false := by simpa using hc38
        refine TC.ret ?_
        refine block_ret ?_
        refine then_ret ?_
        refine loop_ret ?_
        refine block_ret ?_
        exact ⟨.inl rfl, [], .nil, H1, List.Sublist.refl _, .inr ⟨_, by (have h := hR; simp only [hcy, Bool.false_eq_true, if_false] at h; exact h)⟩⟩
      · try dsimp only at hc38
        have hcy : bb = true := by simpa using hc38
        refine TC.skip ?_
        refine block_normal ?_
        refine then_normal ?_
        refine TC.region ?_
        refine TL.run1 (pure_add rfl rfl (mkI64 (by omega) (by omega))) rfl ?_
        refine TL.run1 (pure_move rfl) rfl ?_
        refine TL.nil ?_
        have hb : (if k + 1 = 0 then ⟨#[]⟩ else tAt (cluV s) ((k + 1 : Int) - 1)) = tAt (cluV s) k := by (rw [if_neg (by omega)]; congr 1; omega)
        refine loop_next (k + 1, H1) ⟨by (dsimp only; rw [show (if k + 1 = 0 then (⟨#[]⟩ : ByteArray) else tAt (cluV s) (((k + 1 : Nat) : Int) - 1)) = tAt (cluV s) k by (rw [if_neg (by omega)]; congr 1; omega), show (((k + 1 : Nat)) : Int) = (k : Int) + 1 by omega]; repeat (first | exact Agree.nil | refine Agree.cons rfl ?_)), by repeat (first | exact List.nil_sublist _ | exact List.Sublist.refl _ | apply List.Sublist.cons_cons | apply List.Sublist.cons)⟩ ⟨by omega, by have h := hR; simp only [hcy, if_true] at h; exact h⟩ (by dsimp only; omega)
    · try dsimp only at hc21
      refine TC.exit ?_
      refine then_exit ?_
      refine loop_exit ?_
      refine block_here ?_
      have he : k + 1 = (encI (offP f (cluV s))).length := by (rw [encI_len, offP_len]; omega)
      exact ⟨.inr rfl, [], .nil, Hc, List.Sublist.refl _, .inl (by rw [← he]; exact hJ)⟩
set_option maxRecDepth 100000 in
theorem widths_spec (f : Fo) (s : ByteArray) : Fun Tryd.prog 40 [.agg [.v (.int .i64 f.face), .v (.int .i64 f.size), .v (.int .i64 f.raise), .v (.bool f.bold)], .v (.string s)] (.fn 58 [.at_ [.v (.string s)], .at_ [.v (.int .i64 f.face), .v (.int .i64 f.size), .v (.int .i64 f.raise), .v (.bool f.bold)]]) := by
  refine Fun.enterF (n := 6) (rs := [.tmp 4]) Tryd.func40 rfl Tryd.ntmps40 Tryd.results40 rfl (fun w F => ?_)
  refine TC.seq ?_
  refine TC.region ?_
  refine TL.box rfl (.agg _) rfl (fun g2 => ?_)
  refine TL.box rfl (.one rfl) rfl (fun g3 => ?_)
  refine TL.run1 (pure_assign rfl) rfl ?_
  refine TL.nil' ?_
  refine TC.seq ?_
  refine TC.region ?_
  refine TL.run1 (pure_makeFunc (.cons rfl (.cons rfl .nil))) rfl ?_
  refine TL.run1 (pure_assign rfl) rfl ?_
  refine TL.nil' ?_
  refine TC.ret ?_
  exact retF1 (.inl rfl) rfl (.fnL (.cons (.boxS (by repeat (first | exact List.Mem.head _ | apply List.Mem.tail)) (List.cons_ne_nil _ _)) (.cons (.boxS (by repeat (first | exact List.Mem.head _ | apply List.Mem.tail)) (List.cons_ne_nil _ _)) .nil)))
end Go.Ob
