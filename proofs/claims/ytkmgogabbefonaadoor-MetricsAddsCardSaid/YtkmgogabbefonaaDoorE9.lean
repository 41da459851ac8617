import Derived.Test.YtkmgogabbefonaaDoorE8
set_option linter.unusedVariables false
set_option linter.unusedSimpArgs false
namespace Go.Ob
open Go.Proofs

/-! ### widths do not decrease -/
theorem pairs_wide : ∀ t ∈ wideL ++ smallL, ¬ Zero (classP (p1 (t.extract 1 2))) ∧ ¬ (WideC (classP (p1 (t.extract 1 2))) ∨ p1 (t.extract 1 2) ≥ 11904) ∧ 80 ≤ baseP (p1 (t.extract 1 2)) := by decide +kernel
theorem scP_mono {f : Fo} (hf : ¬ FBad f) {n m : Int} (h : n ≤ m) : scP f n ≤ scP f m := by
  unfold scP
  unfold FBad at hf
  have : n * (10 * f.size) ≤ m * (10 * f.size) := Int.mul_le_mul_of_nonneg_right h (by omega)
  omega
theorem step_nonneg {f : Fo} (hf : ¬ FBad f) {b c : ByteArray} (hc : (cluV c).length = 1) (hb : b = ⟨#[]⟩ ∨ 0 < b.size) : 0 ≤ krP f b c + widP f c := by
  have hw := widP_range hf c
  by_cases h : kK (b ++ c) = 0 ∨ ¬ f.face % 2 = 0
  · unfold krP; rw [if_pos h]; omega
  · have hk : kK (b ++ c) ≠ 0 := fun e => h (.inl e)
    have hev : f.face % 2 = 0 := Decidable.not_not.1 fun e => h (.inr e)
    have h1 : b.size = 1 := by
      rcases hb with rfl | hb
      · have e : (⟨#[]⟩ : ByteArray) ++ c = c := by apply ByteArray.ext; simp
        rw [e] at hk
        have := (kK_two hk).2; omega
      · have h2 := (kK_two hk).1
        have h3 := clu_pos hc
        rw [size_app] at h2; omega
    have hp := kK_pair hk
    have h2 := (kK_two hk).1
    rw [size_app] at h2
    obtain ⟨z1, z2, z3⟩ := pairs_wide _ hp
    rw [app_right h1 (by omega)] at z1 z2 z3
    have hn : nomP f (p1 c) = baseP (p1 c) := by unfold nomP; rw [if_neg z1, if_neg z2, if_neg (fun e => e hev)]
    have hl : 80 ≤ nomL f (p1 c) := by unfold nomL; rw [hn]; split <;> omega
    have hkr := kK_range (b ++ c)
    have hm := scP_mono hf (show kK (b ++ c) ≤ nomL f (p1 c) by omega)
    unfold krP widP
    rw [if_neg h]; omega
theorem wS_step {f : Fo} (hf : ¬ FBad f) {l : List ByteArray} (hl : ∀ c ∈ l, (cluV c).length = 1) (k : Nat) (hk : k < l.length) : wS f l k ≤ wS f l (k + 1) := by
  have hc := hl _ (tAt_mem l k (by omega) (by omega))
  have := step_nonneg (b := if k = 0 then ⟨#[]⟩ else tAt l ((k : Int) - 1)) hf hc (by
    by_cases h0 : k = 0
    · rw [if_pos h0]; exact .inl rfl
    · rw [if_neg h0]; exact .inr (clu_pos (hl _ (tAt_mem l _ (by omega) (by omega)))))
  rw [wS]; omega
theorem wS_mono {f : Fo} (hf : ¬ FBad f) {l : List ByteArray} (hl : ∀ c ∈ l, (cluV c).length = 1) {i : Nat} : ∀ {k : Nat}, i ≤ k → k ≤ l.length → wS f l i ≤ wS f l k
  | 0, h, _ => by rw [show i = 0 by omega]; exact Int.le_refl _
  | k + 1, h, hk => by
    rcases Nat.eq_or_lt_of_le h with h | h
    · rw [h]; exact Int.le_refl _
    · exact Int.le_trans (wS_mono hf hl (show i ≤ k by omega) (by omega)) (wS_step hf hl k (by omega))
theorem wS_nonneg {f : Fo} (hf : ¬ FBad f) {l : List ByteArray} (hl : ∀ c ∈ l, (cluV c).length = 1) {k : Nat} (hk : k ≤ l.length) : 0 ≤ wS f l k := wS_mono hf hl (Nat.zero_le k) hk
theorem clu_ones {s : ByteArray} (hok : okS s = true) : ∀ c ∈ cluV s, (cluV c).length = 1 := fun _ hc => (clu_mem hok hc).2.2
/-! ### the last width that fits; the nearest one -/
def fitP (l : List Int) (w : Int) : Nat → Int
  | 0 => 0
  | k + 1 => if iAt l k ≤ w then (k : Int) else fitP l w k
def fitV (f : Fo) (s : ByteArray) (w : Int) : Int := if chkV f [s] = 0 then fitP (offP f (cluV s)) w ((cluV s).length + 1) else 0
def absD (a x : Int) : Int := max (a - x) (x - a)
def clampX (x m : Int) : Int := min (max x 0) m
def hitP (l : List Int) (x : Int) : Nat → Nat
  | 0 => 0
  | k + 1 => if absD (iAt l k) x < absD (iAt l (hitP l x k)) x then k else hitP l x k
theorem hitP_le (l : List Int) (x : Int) : ∀ k, hitP l x k ≤ k
  | 0 => Nat.le_refl _
  | k + 1 => by have := hitP_le l x k; rw [hitP]; split <;> omega
theorem hitP_lt (l : List Int) (x : Int) (k : Nat) (h : 0 < k) : hitP l x k < k := by
  obtain ⟨m, rfl⟩ : ∃ m, k = m + 1 := ⟨k - 1, by omega⟩
  have := hitP_le l x m
  rw [hitP]; split <;> omega
def lastW (f : Fo) (s : ByteArray) : Int := wS f (cluV s) (cluV s).length
def hitV (f : Fo) (s : ByteArray) (x : Int) : Int := if chkV f [s] = 0 then (hitP (offP f (cluV s)) (clampX x (lastW f s)) ((cluV s).length + 1) : Nat) else 0
/-! ### lines -/
def fAt (l : List Fo) (i : Int) : Fo := l.getD i.toNat ⟨0, 0, 0, false⟩
def encFs (l : List Fo) : List (List D) := l.map fun f => [.v (.int .i64 f.face), .v (.int .i64 f.size), .v (.int .i64 f.raise), .v (.bool f.bold)]
theorem encFs_len (l : List Fo) : (encFs l).length = l.length := by simp [encFs]
theorem encFs_get (l : List Fo) (i : Int) (h0 : 0 ≤ i) (h1 : i < l.length) : (encFs l)[i.toNat]? = some [.v (.int .i64 (fAt l i).face), .v (.int .i64 (fAt l i).size), .v (.int .i64 (fAt l i).raise), .v (.bool (fAt l i).bold)] := by
  have : i.toNat < l.length := by omega
  simp [encFs, fAt, this]
theorem fAt_mem (l : List Fo) (i : Int) (h0 : 0 ≤ i) (h1 : i < l.length) : fAt l i ∈ l := by
  unfold fAt
  rw [List.getD_eq_getElem?_getD, List.getElem?_eq_getElem (by omega)]
  exact List.getElem_mem _
theorem fAt_of {l : List Fo} {f : Fo} (h : f ∈ l) : ∃ j : Nat, j < l.length ∧ fAt l j = f := by
  obtain ⟨j, hj, rfl⟩ := List.getElem_of_mem h
  refine ⟨j, hj, ?_⟩
  unfold fAt
  rw [Int.toNat_natCast, List.getD_eq_getElem?_getD, List.getElem?_eq_getElem hj]; rfl
def ascP (f : Fo) : Int := 10 * f.size * 4 / 5 + f.raise
def desP (f : Fo) : Int := 10 * f.size / 5 - f.raise
def mxA (l : List Fo) : Nat → Int
  | 0 => 0
  | k + 1 => max (mxA l k) (ascP (fAt l k))
def mxD (l : List Fo) : Nat → Int
  | 0 => 0
  | k + 1 => max (mxD l k) (desP (fAt l k))
theorem mxA_range (l : List Fo) : ∀ k : Nat, (∀ j : Nat, j < k → ¬ FBad (fAt l j)) → 0 ≤ mxA l k ∧ mxA l k ≤ 100000 ∧ 0 ≤ mxD l k ∧ mxD l k ≤ 100000
  | 0, _ => by rw [mxA, mxD]; omega
  | k + 1, h => by
    have ih := mxA_range l k fun j hj => h j (by omega)
    have hf := h k (by omega)
    unfold FBad at hf
    rw [mxA, mxD]
    unfold ascP desP
    omega
def lineE (l : List Fo) : Int := if l.length = 0 then 11 else if ∀ f ∈ l, ¬ FBad f then 0 else 2
theorem lineE_nil {l : List Fo} (h : l.length = 0) : lineE l = 11 := by unfold lineE; rw [if_pos h]
theorem lineE_bad {l : List Fo} {f : Fo} (h : f ∈ l) (hb : FBad f) : lineE l = 2 := by
  unfold lineE
  rw [if_neg (by have := List.length_pos_of_mem h; omega), if_neg (fun e => e f h hb)]
theorem lineE_ok {l : List Fo} (h : ¬ l.length = 0) (hb : ∀ j : Nat, j < l.length → ¬ FBad (fAt l j)) : lineE l = 0 := by
  unfold lineE
  rw [if_neg h, if_pos fun f hf => by obtain ⟨j, hj, rfl⟩ := fAt_of hf; exact hb j hj]
def lineA (l : List Fo) : Int := if lineE l = 0 then mxA l l.length else 0
def lineD (l : List Fo) : Int := if lineE l = 0 then mxD l l.length else 0
set_option maxRecDepth 100000 in
theorem Fit_spec (f : Fo) (s : ByteArray) (x : Int) (hs : s.size ≤ 1000000) : Fun Tryd.prog 24 [.agg [.v (.int .i64 f.face), .v (.int .i64 f.size), .v (.int .i64 f.raise), .v (.bool f.bold)], .v (.string s), .v (.int .i64 x)] (.tup [.v (.int .i64 (fitV f s x)), .v (.int .i64 (chkV f [s]))]) := by
  refine Fun.enter (n := 35) (rs := [.tmp 6, .tmp 7]) Tryd.func24 rfl Tryd.ntmps24 Tryd.results24 rfl (fun w F => ?_)
  refine TC.seq ?_
  refine TC.region ?_
  refine TL.box rfl (.agg _) rfl (fun g3 => ?_)
  refine TL.run1 (pure_assign rfl) rfl ?_
  refine TL.run1 (pure_assign rfl) rfl ?_
  refine TL.nil' ?_
  refine TC.seq ?_
  refine TC.region ?_
  first | refine TL.run1 (pure_load Ty.agg23 rfl (.succ (.succ (.succ (.succ (.zero _)))))) rfl ?_ | refine TL.run1 (pure_load_own Ty.agg23 rfl (by repeat (first | exact List.Mem.head _ | apply List.Mem.tail)) (by repeat (first | exact DropR.zero _ | apply DropR.succ)) (.succ (.succ (.succ (.succ (.zero _)))))) rfl ?_
  refine TL.run1 (pure_move rfl) rfl ?_
  refine TL.run1 (pure_call (Offsets_spec f s hs) (.cons rfl (.cons rfl .nil)) Tryd.call18) rfl ?_
  refine TL.run1 (pure_move rfl) rfl ?_
  refine TL.run1 (pure_extract rfl rfl) rfl ?_
  refine TL.run1 (pure_extract rfl rfl) rfl ?_
  refine TL.run1 (pure_assign rfl) rfl ?_
  refine TL.run1 (pure_assign rfl) rfl ?_
  refine TL.nil' ?_
  refine TC.seq ?_
  refine TC.seq ?_
  refine TC.region ?_
  refine TL.run1 (pure_move rfl) rfl ?_
  refine TL.run1 (pure_neq rfl rfl) rfl ?_
  refine TL.nil' ?_
  first | refine TC.condD rfl (fun hc20 => ?_) (fun hc20 => ?_) | refine TC.condN rfl (fun hc20 => ?_) (fun hc20 => ?_) | refine TC.cond rfl (fun hc20 => ?_) (fun hc20 => ?_)
  · try dsimp only at hc20
    refine TC.seq ?_
    refine TC.region ?_
    refine TL.run1 (pure_move rfl) rfl ?_
    refine TL.run1 (pure_assign rfl) rfl ?_
    refine TL.run1 (pure_assign rfl) rfl ?_
    refine TL.nil' ?_
    refine TC.ret ?_
    refine then_ret ?_
    exact ret2 (.inl rfl) rfl rfl (by unfold fitV; rw [if_neg hc20])
  · try dsimp only at hc20
    have hch : chkV f [s] = 0 := Decidable.not_not.1 hc20
    obtain ⟨hf, hall⟩ := chkV_zero hch
    have hok := hall s (List.mem_singleton.2 rfl)
    have hov : offV f s = offP f (cluV s) := by unfold offV; rw [if_pos hch]
    rw [hov]
    have hcz := cluV_len s
    have hkl := encI_len (offP f (cluV s))
    have hol := offP_len f (cluV s)
    refine TC.skip' ?_
    refine TC.seq ?_
    refine TC.region ?_
    refine TL.run1 (pure_assign rfl) rfl ?_
    refine TL.nil' ?_
    refine TC.seq ?_
    refine TC.seq ?_
    refine TC.region ?_
    refine TL.run1 (pure_move rfl) rfl ?_
    first | refine TL.run1 (pure_len Ty.sl35 rfl) rfl ?_ | refine TL.run1 (pure_len_row Ty.sl35 rfl (by repeat (first | exact List.Mem.head _ | apply List.Mem.tail))) rfl ?_ | refine TL.run1 (pure_len_nil Ty.sl35 rfl) rfl ?_
    refine TL.run1 (pure_move rfl) rfl ?_
    refine TL.nil' ?_
    refine TC.block ?_
    refine TC.loopX (X := Nat) (fun i => [(2, .v (.int .i64 x)), (10, .v (.int .i64 (fitP (offP f (cluV s)) x i))), (22, .sl 1 (encI (offP f (cluV s)))), (23, .v (.int .i64 (encI (offP f (cluV s))).length)), (24, .v (.int .i64 i))]) (fun i => []) (fun i => (i ≤ (cluV s).length + 1)) (fun i => (cluV s).length + 1 - i) (0) ⟨by skip; repeat (first | exact Agree.nil | refine Agree.cons rfl ?_), by skip; repeat (first | exact List.nil_sublist _ | exact List.Sublist.refl _ | apply List.Sublist.cons_cons | apply List.Sublist.cons)⟩ ?_ ?_
    · skip
      exact Nat.zero_le _
    intro i
    intro h1
    show TC _ _ _ (Env.of [(2, .v (.int .i64 x)), (10, .v (.int .i64 (fitP (offP f (cluV s)) x i))), (22, .sl 1 (encI (offP f (cluV s)))), (23, .v (.int .i64 (encI (offP f (cluV s))).length)), (24, .v (.int .i64 i))]) []
    refine TC.seq ?_
    refine TC.region ?_
    refine TL.run1 (pure_lss rfl rfl) rfl ?_
    refine TL.nil' ?_
    refine TC.seq ?_
    first | refine TC.condD rfl (fun hc25 => ?_) (fun hc25 => ?_) | refine TC.condN rfl (fun hc25 => ?_) (fun hc25 => ?_) | refine TC.cond rfl (fun hc25 => ?_) (fun hc25 => ?_)
    · try dsimp only at hc25
      refine TC.skip' ?_
      refine TC.seq ?_
      refine TC.block ?_
      refine TC.seq ?_
      have hrow : (encI (offP f (cluV s)))[((i : Nat) : Int).toNat]? = some [.v (.int .i64 (iAt (offP f (cluV s)) i))] := encI_get (offP f (cluV s)) i (by omega) (by omega)
      refine TC.region ?_
      refine TL.run1 (pure_move rfl) rfl ?_
      refine TL.run1 (pure_indexAddr Ty.sl35 rfl rfl (by omega) hrow (List.cons_ne_nil _ _)) rfl ?_
      first | refine TL.run1 (pure_load1 Ty.one3 rfl) rfl ?_ | refine TL.run1 (pure_load1_own Ty.one3 rfl (by repeat (first | exact List.Mem.head _ | apply List.Mem.tail)) (by repeat (first | exact DropR.zero _ | apply DropR.succ))) rfl ?_
      refine TL.run1 (pure_assign rfl) rfl ?_
      refine TL.run1 (pure_assign rfl) rfl ?_
      refine TL.nil' ?_
      refine TC.seq ?_
      refine TC.region ?_
      refine TL.run1 (pure_move rfl) rfl ?_
      refine TL.run1 (pure_move rfl) rfl ?_
      refine TL.run1 (pure_leq rfl rfl) rfl ?_
      refine TL.nil' ?_
      first | refine TC.condD rfl (fun hc31 => ?_) (fun hc31 => ?_) | refine TC.condN rfl (fun hc31 => ?_) (fun hc31 => ?_) | refine TC.cond rfl (fun hc31 => ?_) (fun hc31 => ?_)
      · try dsimp only at hc31
        refine TC.region ?_
        refine TL.run1 (pure_move rfl) rfl ?_
        refine TL.run1 (pure_assign rfl) rfl ?_
        refine TL.nil ?_
        refine block_normal ?_
        refine then_normal ?_
        refine TC.region ?_
        refine TL.run1 (pure_add rfl rfl (mkI64 (by omega) (by omega))) rfl ?_
        refine TL.run1 (pure_move rfl) rfl ?_
        refine TL.nil ?_
        have hst : fitP (offP f (cluV s)) x (i + 1) = (i : Int) := by (rw [fitP, if_pos hc31])
        refine loop_next (i + 1) ⟨by ((try dsimp only); rw [hst, show (((i + 1 : Nat)) : Int) = (i : Int) + 1 by omega]; repeat (first | exact Agree.nil | refine Agree.cons rfl ?_)), by repeat (first | exact List.nil_sublist _ | exact List.Sublist.refl _ | apply List.Sublist.cons_cons | apply List.Sublist.cons)⟩ (show i + 1 ≤ _ by omega) (by omega)
      · try dsimp only at hc31
        refine TC.skip ?_
        refine block_normal ?_
        refine then_normal ?_
        refine TC.region ?_
        refine TL.run1 (pure_add rfl rfl (mkI64 (by omega) (by omega))) rfl ?_
        refine TL.run1 (pure_move rfl) rfl ?_
        refine TL.nil ?_
        have hst : fitP (offP f (cluV s)) x (i + 1) = fitP (offP f (cluV s)) x i := by (rw [fitP, if_neg hc31])
        refine loop_next (i + 1) ⟨by ((try dsimp only); rw [hst, show (((i + 1 : Nat)) : Int) = (i : Int) + 1 by omega]; repeat (first | exact Agree.nil | refine Agree.cons rfl ?_)), by repeat (first | exact List.nil_sublist _ | exact List.Sublist.refl _ | apply List.Sublist.cons_cons | apply List.Sublist.cons)⟩ (show i + 1 ≤ _ by omega) (by omega)
    · try dsimp only at hc25
      refine TC.exit ?_
      refine then_exit ?_
      refine loop_exit ?_
      refine block_here ?_
      refine then_normal ?_
      refine TC.seq ?_
      refine TC.region ?_
      refine TL.run1 (pure_move rfl) rfl ?_
      refine TL.run1 (pure_assign rfl) rfl ?_
      refine TL.run1 (pure_assign rfl) rfl ?_
      refine TL.nil' ?_
      refine TC.ret ?_
      have hil : i = (cluV s).length + 1 := by omega
      exact ret2 (.inl rfl) rfl rfl (by unfold fitV; rw [if_pos hch, hch, hil])
set_option maxRecDepth 100000 in
theorem Hit_spec (f : Fo) (s : ByteArray) (x : Int) (hs : s.size ≤ 1000000) : Fun Tryd.prog 27 [.agg [.v (.int .i64 f.face), .v (.int .i64 f.size), .v (.int .i64 f.raise), .v (.bool f.bold)], .v (.string s), .v (.int .i64 x)] (.tup [.v (.int .i64 (hitV f s x)), .v (.int .i64 (chkV f [s]))]) := by
  refine Fun.enter (n := 55) (rs := [.tmp 6, .tmp 7]) Tryd.func27 rfl Tryd.ntmps27 Tryd.results27 rfl (fun w F => ?_)
  refine TC.seq ?_
  refine TC.region ?_
  refine TL.box rfl (.agg _) rfl (fun g3 => ?_)
  refine TL.run1 (pure_assign rfl) rfl ?_
  refine TL.run1 (pure_assign rfl) rfl ?_
  refine TL.nil' ?_
  refine TC.seq ?_
  refine TC.region ?_
  first | refine TL.run1 (pure_load Ty.agg23 rfl (.succ (.succ (.succ (.succ (.zero _)))))) rfl ?_ | refine TL.run1 (pure_load_own Ty.agg23 rfl (by repeat (first | exact List.Mem.head _ | apply List.Mem.tail)) (by repeat (first | exact DropR.zero _ | apply DropR.succ)) (.succ (.succ (.succ (.succ (.zero _)))))) rfl ?_
  refine TL.run1 (pure_move rfl) rfl ?_
  refine TL.run1 (pure_call (Offsets_spec f s hs) (.cons rfl (.cons rfl .nil)) Tryd.call18) rfl ?_
  refine TL.run1 (pure_move rfl) rfl ?_
  refine TL.run1 (pure_extract rfl rfl) rfl ?_
  refine TL.run1 (pure_extract rfl rfl) rfl ?_
  refine TL.run1 (pure_assign rfl) rfl ?_
  refine TL.run1 (pure_assign rfl) rfl ?_
  refine TL.nil' ?_
  refine TC.seq ?_
  refine TC.seq ?_
  refine TC.region ?_
  refine TL.run1 (pure_move rfl) rfl ?_
  refine TL.run1 (pure_neq rfl rfl) rfl ?_
  refine TL.nil' ?_
  first | refine TC.condD rfl (fun hc22 => ?_) (fun hc22 => ?_) | refine TC.condN rfl (fun hc22 => ?_) (fun hc22 => ?_) | refine TC.cond rfl (fun hc22 => ?_) (fun hc22 => ?_)
  · try dsimp only at hc22
    refine TC.seq ?_
    refine TC.region ?_
    refine TL.run1 (pure_move rfl) rfl ?_
    refine TL.run1 (pure_assign rfl) rfl ?_
    refine TL.run1 (pure_assign rfl) rfl ?_
    refine TL.nil' ?_
    refine TC.ret ?_
    refine then_ret ?_
    exact ret2 (.inl rfl) rfl rfl (by unfold hitV; rw [if_neg hc22])
  · try dsimp only at hc22
    have hch : chkV f [s] = 0 := Decidable.not_not.1 hc22
    obtain ⟨hf, hall⟩ := chkV_zero hch
    have hok := hall s (List.mem_singleton.2 rfl)
    have hov : offV f s = offP f (cluV s) := by unfold offV; rw [if_pos hch]
    rw [hov]
    have hcz := cluV_len s
    have hkl := encI_len (offP f (cluV s))
    have hol := offP_len f (cluV s)
    have hon := clu_ones hok
    have hwl := wS_range hf (cluV s) (cluV s).length
    have hw0 := wS_nonneg hf hon (Nat.le_refl _)
    have hrowL : (encI (offP f (cluV s)))[(((encI (offP f (cluV s))).length : Int) - 1).toNat]? = some [.v (.int .i64 (lastW f s))] := by (rw [hkl, hol, show ((((cluV s).length + 1 : Nat) : Int) - 1).toNat = (cluV s).length by omega]; exact offP_get f _ _ (Nat.le_refl _))
    refine TC.skip' ?_
    refine TC.seq ?_
    refine TC.region ?_
    refine TL.run1 (pure_move rfl) rfl ?_
    refine TL.run1 (pure_max rfl rfl) rfl ?_
    refine TL.run1 (pure_move rfl) rfl ?_
    refine TL.run1 (pure_move rfl) rfl ?_
    first | refine TL.run1 (pure_len Ty.sl35 rfl) rfl ?_ | refine TL.run1 (pure_len_row Ty.sl35 rfl (by repeat (first | exact List.Mem.head _ | apply List.Mem.tail))) rfl ?_ | refine TL.run1 (pure_len_nil Ty.sl35 rfl) rfl ?_
    refine TL.run1 (pure_sub rfl rfl (mkI64 (by omega) (by omega))) rfl ?_
    refine TL.run1 (pure_indexAddr Ty.sl35 rfl rfl (by omega) hrowL (List.cons_ne_nil _ _)) rfl ?_
    first | refine TL.run1 (pure_load1 Ty.one3 rfl) rfl ?_ | refine TL.run1 (pure_load1_own Ty.one3 rfl (by repeat (first | exact List.Mem.head _ | apply List.Mem.tail)) (by repeat (first | exact DropR.zero _ | apply DropR.succ))) rfl ?_
    refine TL.run1 (pure_min rfl rfl) rfl ?_
    refine TL.run1 (pure_assign rfl) rfl ?_
    refine TL.nil' ?_
    refine TC.seq ?_
    have hxc : min (max x 0) (lastW f s) = (clampX x (lastW f s)) := rfl
    rw [hxc]
    have hx0 : 0 ≤ (clampX x (lastW f s)) ∧ (clampX x (lastW f s)) ≤ lastW f s := by (unfold clampX; have : 0 ≤ lastW f s := hw0; omega)
    have hlw : lastW f s ≤ 32761 * (cluV s).length := hwl.2
    refine TC.region ?_
    refine TL.run1 (pure_move rfl) rfl ?_
    refine TL.run1 (pure_assign rfl) rfl ?_
    refine TL.run1 (pure_assign rfl) rfl ?_
    refine TL.nil' ?_
    refine TC.seq ?_
    refine TC.seq ?_
    refine TC.region ?_
    refine TL.run1 (pure_move rfl) rfl ?_
    first | refine TL.run1 (pure_len Ty.sl35 rfl) rfl ?_ | refine TL.run1 (pure_len_row Ty.sl35 rfl (by repeat (first | exact List.Mem.head _ | apply List.Mem.tail))) rfl ?_ | refine TL.run1 (pure_len_nil Ty.sl35 rfl) rfl ?_
    refine TL.run1 (pure_move rfl) rfl ?_
    refine TL.nil' ?_
    refine TC.block ?_
    refine TC.loopX (X := Nat) (fun i => [(2, .v (.int .i64 (clampX x (lastW f s)))), (10, .v (.int .i64 ((hitP (offP f (cluV s)) (clampX x (lastW f s)) i) : Nat))), (11, .v (.int .i64 (absD (iAt (offP f (cluV s)) (hitP (offP f (cluV s)) (clampX x (lastW f s)) i)) (clampX x (lastW f s))))), (34, .sl 1 (encI (offP f (cluV s)))), (35, .v (.int .i64 (encI (offP f (cluV s))).length)), (36, .v (.int .i64 i))]) (fun i => []) (fun i => (i ≤ (cluV s).length + 1)) (fun i => (cluV s).length + 1 - i) (0) ⟨by (try dsimp only); rw [show absD (iAt (offP f (cluV s)) (hitP (offP f (cluV s)) (clampX x (lastW f s)) 0)) (clampX x (lastW f s)) = (clampX x (lastW f s)) by (rw [hitP, iAt_offP f (cluV s) 0 (Nat.zero_le _), wS]; unfold absD; omega)]; repeat (first | exact Agree.nil | refine Agree.cons rfl ?_), by skip; repeat (first | exact List.nil_sublist _ | exact List.Sublist.refl _ | apply List.Sublist.cons_cons | apply List.Sublist.cons)⟩ ?_ ?_
    · skip
      exact Nat.zero_le _
    intro i
    intro h1
    show TC _ _ _ (Env.of [(2, .v (.int .i64 (clampX x (lastW f s)))), (10, .v (.int .i64 ((hitP (offP f (cluV s)) (clampX x (lastW f s)) i) : Nat))), (11, .v (.int .i64 (absD (iAt (offP f (cluV s)) (hitP (offP f (cluV s)) (clampX x (lastW f s)) i)) (clampX x (lastW f s))))), (34, .sl 1 (encI (offP f (cluV s)))), (35, .v (.int .i64 (encI (offP f (cluV s))).length)), (36, .v (.int .i64 i))]) []
    refine TC.seq ?_
    refine TC.region ?_
    refine TL.run1 (pure_lss rfl rfl) rfl ?_
    refine TL.nil' ?_
    refine TC.seq ?_
    first | refine TC.condD rfl (fun hc37 => ?_) (fun hc37 => ?_) | refine TC.condN rfl (fun hc37 => ?_) (fun hc37 => ?_) | refine TC.cond rfl (fun hc37 => ?_) (fun hc37 => ?_)
    · try dsimp only at hc37
      refine TC.skip' ?_
      refine TC.seq ?_
      refine TC.block ?_
      refine TC.seq ?_
      have hrow : (encI (offP f (cluV s)))[((i : Nat) : Int).toNat]? = some [.v (.int .i64 (iAt (offP f (cluV s)) i))] := encI_get (offP f (cluV s)) i (by omega) (by omega)
      have hio := iAt_offP f (cluV s) i (by omega)
      have hw1 := wS_range hf (cluV s) i
      have hw2 := wS_nonneg hf hon (show i ≤ (cluV s).length by omega)
      refine TC.region ?_
      refine TL.run1 (pure_move rfl) rfl ?_
      refine TL.run1 (pure_indexAddr Ty.sl35 rfl rfl (by omega) hrow (List.cons_ne_nil _ _)) rfl ?_
      first | refine TL.run1 (pure_load1 Ty.one3 rfl) rfl ?_ | refine TL.run1 (pure_load1_own Ty.one3 rfl (by repeat (first | exact List.Mem.head _ | apply List.Mem.tail)) (by repeat (first | exact DropR.zero _ | apply DropR.succ))) rfl ?_
      refine TL.run1 (pure_assign rfl) rfl ?_
      refine TL.run1 (pure_assign rfl) rfl ?_
      refine TL.nil' ?_
      refine TC.seq ?_
      refine TC.region ?_
      refine TL.run1 (pure_move rfl) rfl ?_
      refine TL.run1 (pure_move rfl) rfl ?_
      refine TL.run1 (pure_sub rfl rfl (mkI64 (by omega) (by omega))) rfl ?_
      refine TL.run1 (pure_move rfl) rfl ?_
      refine TL.run1 (pure_move rfl) rfl ?_
      refine TL.run1 (pure_sub rfl rfl (mkI64 (by omega) (by omega))) rfl ?_
      refine TL.run1 (pure_max rfl rfl) rfl ?_
      refine TL.run1 (pure_assign rfl) rfl ?_
      refine TL.nil' ?_
      refine TC.seq ?_
      have hab : max (iAt (offP f (cluV s)) i - (clampX x (lastW f s))) ((clampX x (lastW f s)) - iAt (offP f (cluV s)) i) = absD (iAt (offP f (cluV s)) i) (clampX x (lastW f s)) := rfl
      rw [hab]
      refine TC.region ?_
      refine TL.run1 (pure_move rfl) rfl ?_
      refine TL.run1 (pure_move rfl) rfl ?_
      refine TL.run1 (pure_lss rfl rfl) rfl ?_
      refine TL.nil' ?_
      first | refine TC.condD rfl (fun hc50 => ?_) (fun hc50 => ?_) | refine TC.condN rfl (fun hc50 => ?_) (fun hc50 => ?_) | refine TC.cond rfl (fun hc50 => ?_) (fun hc50 => ?_)
      · try dsimp only at hc50
        refine TC.region ?_
        refine TL.run1 (pure_move rfl) rfl ?_
        refine TL.run1 (pure_move rfl) rfl ?_
        refine TL.run1 (pure_assign rfl) rfl ?_
        refine TL.run1 (pure_assign rfl) rfl ?_
        refine TL.nil ?_
        refine block_normal ?_
        refine then_normal ?_
        refine TC.region ?_
        refine TL.run1 (pure_add rfl rfl (mkI64 (by omega) (by omega))) rfl ?_
        refine TL.run1 (pure_move rfl) rfl ?_
        refine TL.nil ?_
        have hst : (hitP (offP f (cluV s)) (clampX x (lastW f s)) (i + 1)) = i := by (rw [hitP, if_pos hc50])
        refine loop_next (i + 1) ⟨by ((try dsimp only); rw [hst, show (((i + 1 : Nat)) : Int) = (i : Int) + 1 by omega]; repeat (first | exact Agree.nil | refine Agree.cons rfl ?_)), by repeat (first | exact List.nil_sublist _ | exact List.Sublist.refl _ | apply List.Sublist.cons_cons | apply List.Sublist.cons)⟩ (show i + 1 ≤ _ by omega) (by omega)
      · try dsimp only at hc50
        refine TC.skip ?_
        refine block_normal ?_
        refine then_normal ?_
        refine TC.region ?_
        refine TL.run1 (pure_add rfl rfl (mkI64 (by omega) (by omega))) rfl ?_
        refine TL.run1 (pure_move rfl) rfl ?_
        refine TL.nil ?_
        have hst : (hitP (offP f (cluV s)) (clampX x (lastW f s)) (i + 1)) = (hitP (offP f (cluV s)) (clampX x (lastW f s)) i) := by (rw [hitP, if_neg hc50])
        refine loop_next (i + 1) ⟨by ((try dsimp only); rw [hst, show (((i + 1 : Nat)) : Int) = (i : Int) + 1 by omega]; repeat (first | exact Agree.nil | refine Agree.cons rfl ?_)), by repeat (first | exact List.nil_sublist _ | exact List.Sublist.refl _ | apply List.Sublist.cons_cons | apply List.Sublist.cons)⟩ (show i + 1 ≤ _ by omega) (by omega)
    · try dsimp only at hc37
      refine TC.exit ?_
      refine then_exit ?_
      refine loop_exit ?_
      refine block_here ?_
      refine then_normal ?_
      refine TC.seq ?_
      refine TC.region ?_
      refine TL.run1 (pure_move rfl) rfl ?_
      refine TL.run1 (pure_assign rfl) rfl ?_
      refine TL.run1 (pure_assign rfl) rfl ?_
      refine TL.nil' ?_
      refine TC.ret ?_
      have hil : i = (cluV s).length + 1 := by omega
      exact ret2 (.inl rfl) rfl rfl (by unfold hitV; rw [if_pos hch, hch, hil])
set_option maxRecDepth 100000 in
theorem Line_spec (l : List Fo) (hl : l.length ≤ 1000000) : Fun Tryd.prog 25 [.sl 4 (encFs l)] (.tup [.v (.int .i64 (lineA l)), .v (.int .i64 (lineD l)), .v (.int .i64 (lineE l))]) := by
  refine Fun.enter (n := 42) (rs := [.tmp 2, .tmp 3, .tmp 4]) Tryd.func25 rfl Tryd.ntmps25 Tryd.results25 rfl (fun w F => ?_)
  have hkl := encFs_len l
  refine TC.seq ?_
  refine TC.region ?_
  refine TL.run1 (pure_assign rfl) rfl ?_
  refine TL.run1 (pure_assign rfl) rfl ?_
  refine TL.run1 (pure_assign rfl) rfl ?_
  refine TL.nil' ?_
  refine TC.seq ?_
  refine TC.seq ?_
  refine TC.region ?_
  refine TL.run1 (pure_move rfl) rfl ?_
  first | refine TL.run1 (pure_len Ty.sl47 rfl) rfl ?_ | refine TL.run1 (pure_len_row Ty.sl47 rfl (by repeat (first | exact List.Mem.head _ | apply List.Mem.tail))) rfl ?_ | refine TL.run1 (pure_len_nil Ty.sl47 rfl) rfl ?_
  refine TL.run1 (pure_eql rfl rfl) rfl ?_
  refine TL.nil' ?_
  first | refine TC.condD rfl (fun hc10 => ?_) (fun hc10 => ?_) | refine TC.condN rfl (fun hc10 => ?_) (fun hc10 => ?_) | refine TC.cond rfl (fun hc10 => ?_) (fun hc10 => ?_)
  · try dsimp only at hc10
    refine TC.seq ?_
    refine TC.region ?_
    refine TL.run1 (pure_assign rfl) rfl ?_
    refine TL.run1 (pure_assign rfl) rfl ?_
    refine TL.run1 (pure_assign rfl) rfl ?_
    refine TL.nil' ?_
    refine TC.ret ?_
    refine then_ret ?_
    have he := lineE_nil (show l.length = 0 by omega)
    exact ret3 (.inl rfl) rfl rfl rfl (by unfold lineA lineD; rw [he]; rfl)
  · try dsimp only at hc10
    refine TC.skip' ?_
    refine TC.seq ?_
    refine TC.seq ?_
    refine TC.region ?_
    refine TL.run1 (pure_move rfl) rfl ?_
    first | refine TL.run1 (pure_len Ty.sl47 rfl) rfl ?_ | refine TL.run1 (pure_len_row Ty.sl47 rfl (by repeat (first | exact List.Mem.head _ | apply List.Mem.tail))) rfl ?_ | refine TL.run1 (pure_len_nil Ty.sl47 rfl) rfl ?_
    refine TL.run1 (pure_move rfl) rfl ?_
    refine TL.nil' ?_
    refine TC.block ?_
    refine TC.loopX (X := Nat) (fun i => [(2, .v (.int .i64 (mxA l i))), (3, .v (.int .i64 (mxD l i))), (11, .sl 4 (encFs l)), (12, .v (.int .i64 (encFs l).length)), (13, .v (.int .i64 i))]) (fun i => []) (fun i => (i ≤ l.length) ∧ (∀ j : Nat, j < i → ¬ FBad (fAt l j))) (fun i => l.length - i) (0) ⟨by skip; repeat (first | exact Agree.nil | refine Agree.cons rfl ?_), by skip; repeat (first | exact List.nil_sublist _ | exact List.Sublist.refl _ | apply List.Sublist.cons_cons | apply List.Sublist.cons)⟩ ?_ ?_
    · skip
      exact ⟨Nat.zero_le _, fun j h => by omega⟩
    intro i
    rintro ⟨h1, h2⟩
    show TC _ _ _ (Env.of [(2, .v (.int .i64 (mxA l i))), (3, .v (.int .i64 (mxD l i))), (11, .sl 4 (encFs l)), (12, .v (.int .i64 (encFs l).length)), (13, .v (.int .i64 i))]) []
    have hmr := mxA_range l i h2
    refine TC.seq ?_
    refine TC.region ?_
    refine TL.run1 (pure_lss rfl rfl) rfl ?_
    refine TL.nil' ?_
    refine TC.seq ?_
    first | refine TC.condD rfl (fun hc14 => ?_) (fun hc14 => ?_) | refine TC.condN rfl (fun hc14 => ?_) (fun hc14 => ?_) | refine TC.cond rfl (fun hc14 => ?_) (fun hc14 => ?_)
    · try dsimp only at hc14
      refine TC.skip' ?_
      refine TC.seq ?_
      refine TC.block ?_
      refine TC.seq ?_
      have hrow := encFs_get l i (by omega) (by omega)
      refine TC.region ?_
      refine TL.run1 (pure_indexAddr Ty.sl47 rfl rfl (by omega) (by assumption) (List.cons_ne_nil _ _)) rfl ?_
      first | refine TL.run1 (pure_load Ty.agg23 rfl (.succ (.succ (.succ (.succ (.zero _)))))) rfl ?_ | refine TL.run1 (pure_load_own Ty.agg23 rfl (by repeat (first | exact List.Mem.head _ | apply List.Mem.tail)) (by repeat (first | exact DropR.zero _ | apply DropR.succ)) (.succ (.succ (.succ (.succ (.zero _)))))) rfl ?_
      refine TL.alloc Ty.zero23 rfl (fun g6 => ?_)
      refine TL.store rfl rfl (.agg _) Tryd.sizeOf23 rfl (by repeat (first | exact UpdR.here _ | apply UpdR.there)) (by repeat (first | exact PutR.nil _ | apply PutR.here | apply PutR.skip)) ?_
      refine TL.nil' ?_
      refine TC.seq ?_
      refine TC.seq ?_
      refine TC.region ?_
      first | refine TL.run1 (pure_load Ty.agg23 rfl (.succ (.succ (.succ (.succ (.zero _)))))) rfl ?_ | refine TL.run1 (pure_load_own Ty.agg23 rfl (by repeat (first | exact List.Mem.head _ | apply List.Mem.tail)) (by repeat (first | exact DropR.zero _ | apply DropR.succ)) (.succ (.succ (.succ (.succ (.zero _)))))) rfl ?_
      refine TL.run1 (pure_call (Check_spec (fAt l i)) (.cons rfl .nil) Tryd.call31) rfl ?_
      refine TL.run1 (pure_assign rfl) rfl ?_
      refine TL.nil' ?_
      refine TC.seq ?_
      refine TC.region ?_
      refine TL.run1 (pure_move rfl) rfl ?_
      refine TL.run1 (pure_neq rfl rfl) rfl ?_
      refine TL.nil' ?_
      first | refine TC.condD rfl (fun hc20 => ?_) (fun hc20 => ?_) | refine TC.condN rfl (fun hc20 => ?_) (fun hc20 => ?_) | refine TC.cond rfl (fun hc20 => ?_) (fun hc20 => ?_)
      · try dsimp only at hc20
        have hbb : FBad (fAt l i) := errF_of hc20
        refine TC.seq ?_
        refine TC.region ?_
        refine TL.run1 (pure_move rfl) rfl ?_
        refine TL.run1 (pure_assign rfl) rfl ?_
        refine TL.run1 (pure_assign rfl) rfl ?_
        refine TL.run1 (pure_assign rfl) rfl ?_
        refine TL.nil' ?_
        refine TC.ret ?_
        refine then_ret ?_
        refine block_ret ?_
        refine then_ret ?_
        refine loop_ret ?_
        refine block_ret ?_
        refine then_ret ?_
        have he := lineE_bad (fAt_mem l i (by omega) (by omega)) hbb
        exact ret3 (.inl rfl) rfl rfl rfl (by unfold lineA lineD; rw [he, errF_bad hbb]; rfl)
      · try dsimp only at hc20
        have hnb : ¬ FBad (fAt l i) := errF_not hc20
        have hfq := hnb
        unfold FBad at hfq
        refine TC.skip' ?_
        refine TC.seq ?_
        refine TC.draw Ty.follows (by kernel_rfl) ?_
        refine TD.run1 (pure_move rfl) rfl ?_
        first | refine TD.run1 (pure_load Ty.agg23 rfl (.succ (.succ (.succ (.succ (.zero _)))))) rfl ?_ | refine TD.run1 (pure_load_own Ty.agg23 rfl (by repeat (first | exact List.Mem.head _ | apply List.Mem.tail)) (by repeat (first | exact DropR.zero _ | apply DropR.succ)) (.succ (.succ (.succ (.succ (.zero _)))))) rfl ?_
        refine TD.run1 (pure_call (em_spec (fAt l i) hnb) (.cons rfl .nil) Tryd.call42) rfl ?_
        refine TD.run1 (pure_mul rfl rfl (mkI64 (by omega) (by omega))) rfl ?_
        refine TD.run1 (pure_quo rfl rfl (by omega) (by omega) (by omega)) rfl ?_
        first | refine TD.run1 (pure_fieldAddr Ty.f23_2 rfl (.succ (.succ (.zero _))) (List.cons_ne_nil _ _)) rfl ?_ | refine TD.run1 (pure_fieldAddr_own Ty.f23_2 rfl) rfl ?_
        first | refine TD.run1 (pure_load1 Ty.one3 rfl) rfl ?_ | refine TD.run1 (pure_load1_own Ty.one3 rfl (by repeat (first | exact List.Mem.head _ | apply List.Mem.tail)) (by repeat (first | exact DropR.zero _ | apply DropR.succ))) rfl ?_
        refine TD.run1 (pure_add rfl rfl (mkI64 (by omega) (by omega))) rfl ?_
        refine TD.run1 (pure_max rfl rfl) rfl ?_
        refine TD.run1 (pure_assign rfl) rfl ?_
        refine TD.nil' ?_
        refine TC.draw Ty.follows (by kernel_rfl) ?_
        refine TD.run1 (pure_move rfl) rfl ?_
        first | refine TD.run1 (pure_load Ty.agg23 rfl (.succ (.succ (.succ (.succ (.zero _)))))) rfl ?_ | refine TD.run1 (pure_load_own Ty.agg23 rfl (by repeat (first | exact List.Mem.head _ | apply List.Mem.tail)) (by repeat (first | exact DropR.zero _ | apply DropR.succ)) (.succ (.succ (.succ (.succ (.zero _)))))) rfl ?_
        refine TD.run1 (pure_call (em_spec (fAt l i) hnb) (.cons rfl .nil) Tryd.call42) rfl ?_
        refine TD.run1 (pure_quo rfl rfl (by omega) (by omega) (by omega)) rfl ?_
        first | refine TD.run1 (pure_fieldAddr Ty.f23_2 rfl (.succ (.succ (.zero _))) (List.cons_ne_nil _ _)) rfl ?_ | refine TD.run1 (pure_fieldAddr_own Ty.f23_2 rfl) rfl ?_
        first | refine TD.run1 (pure_load1 Ty.one3 rfl) rfl ?_ | refine TD.run1 (pure_load1_own Ty.one3 rfl (by repeat (first | exact List.Mem.head _ | apply List.Mem.tail)) (by repeat (first | exact DropR.zero _ | apply DropR.succ))) rfl ?_
        refine TD.run1 (pure_sub rfl rfl (mkI64 (by omega) (by omega))) rfl ?_
        refine TD.run1 (pure_max rfl rfl) rfl ?_
        refine TD.run1 (pure_assign rfl) rfl ?_
        refine TD.nil ?_
        refine block_normal ?_
        refine then_normal ?_
        refine TC.region ?_
        refine TL.run1 (pure_add rfl rfl (mkI64 (by omega) (by omega))) rfl ?_
        refine TL.run1 (pure_move rfl) rfl ?_
        refine TL.nil ?_
        refine loop_next (i + 1) ⟨by ((try dsimp only); rw [mxA, mxD, show (((i + 1 : Nat)) : Int) = (i : Int) + 1 by omega]; repeat (first | exact Agree.nil | refine Agree.cons rfl ?_)), by repeat (first | exact List.nil_sublist _ | exact List.Sublist.refl _ | apply List.Sublist.cons_cons | apply List.Sublist.cons)⟩ ⟨by omega, fun j h => by rcases Nat.lt_or_eq_of_le (Nat.le_of_lt_succ h) with h | h; exact h2 j h; rw [h]; exact hnb⟩ (by omega)
    · try dsimp only at hc14
      refine TC.exit ?_
      refine then_exit ?_
      refine loop_exit ?_
      refine block_here ?_
      refine then_normal ?_
      refine TC.seq ?_
      refine TC.region ?_
      refine TL.run1 (pure_move rfl) rfl ?_
      refine TL.run1 (pure_move rfl) rfl ?_
      refine TL.run1 (pure_assign rfl) rfl ?_
      refine TL.run1 (pure_assign rfl) rfl ?_
      refine TL.run1 (pure_assign rfl) rfl ?_
      refine TL.nil' ?_
      refine TC.ret ?_
      have hil : i = l.length := by omega
      have he := lineE_ok (show ¬ l.length = 0 by omega) (fun j hj => h2 j (by omega))
      exact ret3 (.inl rfl) rfl rfl rfl (by unfold lineA lineD; rw [he, if_pos rfl, if_pos rfl, hil])
end Go.Ob
