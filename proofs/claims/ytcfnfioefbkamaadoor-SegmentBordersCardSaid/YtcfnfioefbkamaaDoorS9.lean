import Derived.Test.YtcfnfioefbkamaaDoorS8
import Derived.Test.YtcfnfioefbkamaaDoorN3
set_option linter.unusedVariables false
set_option linter.unusedSimpArgs false
namespace Go.Ob
open Go.Proofs
/-! ### kinds of neighbours -/
theorem wkTo_range (c : List Int) (i : Nat) : ∀ n, wkTo c i n = 1 ∨ wkTo c i n = 2
  | 0 => .inr rfl
  | n + 1 => by
    rw [wkTo]; split
    · exact .inl rfl
    · exact wkTo_range c i n
theorem kindT_cases (c : List Int) (i : Nat) : (WrdP c i ∧ (kindT c i = 1 ∨ kindT c i = 2)) ∨ (¬ WrdP c i ∧ BlkP c i ∧ kindT c i = 3) ∨ (¬ WrdP c i ∧ ¬ BlkP c i ∧ 4 ≤ kindT c i ∧ kindT c i ≤ 6) := by
  unfold kindT
  by_cases hw : WrdP c i
  · rw [if_pos hw]; exact .inl ⟨hw, wkTo_range c i _⟩
  · by_cases hb : BlkP c i
    · rw [if_neg hw, if_pos hb]; exact .inr (.inl ⟨hw, hb, rfl⟩)
    · rw [if_neg hw, if_neg hb]
      refine .inr (.inr ⟨hw, hb, ?_⟩)
      repeat' split
      all_goals omega
theorem kindT_range (c : List Int) (i : Nat) : 1 ≤ kindT c i ∧ kindT c i ≤ 6 := by rcases kindT_cases c i with ⟨_, h⟩ | ⟨_, _, h⟩ | ⟨_, _, h⟩ <;> omega
theorem endT_stop {c : List Int} {i : Nat} (h : i < c.length) (he : endT c i < c.length) : (WrdP c i → ¬ InsP c (endT c i)) ∧ (¬ WrdP c i → BlkP c i → ¬ BlkP c (endT c i)) := by
  constructor
  · intro hw
    have h4 := (scanF_spec (fun k => decide (InsP c k)) (show i + 1 ≤ c.length by omega)).2.2.2
    have e : endT c i = scanF (fun k => decide (InsP c k)) c.length (i + 1) := by unfold endT; rw [if_pos hw]
    rw [← e] at h4
    rcases h4 with h4 | h4
    · omega
    · exact of_decide_eq_false h4
  · intro hw hb
    have h4 := (scanF_spec (fun k => decide (BlkP c k)) (show i + 1 ≤ c.length by omega)).2.2.2
    have e : endT c i = scanF (fun k => decide (BlkP c k)) c.length (i + 1) := by unfold endT; rw [if_neg hw, if_pos hb]
    rw [← e] at h4
    rcases h4 with h4 | h4
    · omega
    · exact of_decide_eq_false h4
theorem endT_inner {c : List Int} {i q : Nat} (h : i < c.length) (h1 : i < q) (h2 : q < endT c i) : (WrdP c i ∧ InsP c q) ∨ (BlkP c i ∧ BlkP c q) := by
  by_cases hw : WrdP c i
  · have h3 := (scanF_spec (fun k => decide (InsP c k)) (show i + 1 ≤ c.length by omega)).2.2.1
    have e : endT c i = scanF (fun k => decide (InsP c k)) c.length (i + 1) := by unfold endT; rw [if_pos hw]
    rw [← e] at h3
    exact .inl ⟨hw, of_decide_eq_true (h3 q h1 h2)⟩
  · by_cases hb : BlkP c i
    · have h3 := (scanF_spec (fun k => decide (BlkP c k)) (show i + 1 ≤ c.length by omega)).2.2.1
      have e : endT c i = scanF (fun k => decide (BlkP c k)) c.length (i + 1) := by unfold endT; rw [if_neg hw, if_pos hb]
      rw [← e] at h3
      exact .inr ⟨hb, of_decide_eq_true (h3 q h1 h2)⟩
    · rw [endO_eq hw hb] at h2; omega
theorem nb_kind {c : List Int} {m : Nat} (h : m + 1 < nT c) : ¬ (kindT c (posT c (m + 1)) = kindT c (posT c m) ∧ kindT c (posT c (m + 1)) = 3) ∧ ¬ (kindT c (posT c (m + 1)) ≤ 2 ∧ kindT c (posT c m) ≤ 2) := by
  have h1 := nT_lt.1 h
  have h0 := nT_lt.1 (show m < nT c by omega)
  have hp : posT c (m + 1) = endT c (posT c m) := by rw [posT, if_pos h0]
  obtain ⟨s1, s2⟩ := endT_stop h0 (hp ▸ h1)
  rw [← hp] at s1 s2
  have k1 := kindT_cases c (posT c (m + 1))
  have k0 := kindT_cases c (posT c m)
  constructor
  · rintro ⟨a, b⟩
    rcases k1 with ⟨_, e⟩ | ⟨_, hb, e⟩ | ⟨_, _, e⟩
    · omega
    · rcases k0 with ⟨_, e'⟩ | ⟨hw', hb', e'⟩ | ⟨_, _, e'⟩
      · omega
      · exact s2 hw' hb' hb
      · omega
    · omega
  · rintro ⟨a, b⟩
    rcases k1 with ⟨hw, e⟩ | ⟨_, hb, e⟩ | ⟨_, _, e⟩
    · rcases k0 with ⟨hw', e'⟩ | ⟨_, _, e'⟩ | ⟨_, _, e'⟩
      · refine s1 hw' ?_
        rcases hw with hw | hw
        · exact .inl hw
        · exact .inr (.inl hw)
      · omega
      · omega
    · omega
    · omega
def isTo (b : List Int) (z : Int) : Nat → Bool
  | 0 => false
  | k + 1 => isTo b z k || decide (iAt b k = z)
theorem isTo_true {b : List Int} {z : Int} {j : Nat} (hj : iAt b j = z) : ∀ {k}, j < k → isTo b z k = true
  | 0, h => by omega
  | k + 1, h => by
    rw [isTo]
    rcases Nat.lt_or_eq_of_le (Nat.le_of_lt_succ h) with h | h
    · rw [isTo_true hj h, Bool.true_or]
    · rw [← h, decide_eq_true hj, Bool.or_true]
theorem inc_iAt {b : List Int} (h : Inc b) {i j : Nat} (hij : i < j) (hj : j < b.length) : iAt b i < iAt b j := h.lt hij hj
theorem bnds_end (s : ByteArray) : iAt (bnds (cls s)) ((cAll (cls s)).length : Nat) = nR s := by
  have h := bnds_last (cls s)
  have e : (bnds (cls s)).length = (cAll (cls s)).length + 1 := ends_len _
  rw [e, cls_len, show ((((cAll (cls s)).length + 1 : Nat)) : Int) - 1 = (((cAll (cls s)).length : Nat) : Int) by omega] at h
  exact h
/-! ### breaks stand between tokens -/
def qL (c : List Int) : Nat → List Nat
  | 0 => []
  | i + 1 => qL c i ++ (if brk c i ≠ 0 then [i + 1] else [])
theorem qL_mem {c : List Int} {q : Nat} : ∀ {n}, q ∈ qL c n → 1 ≤ q ∧ q ≤ n ∧ brk c (q - 1) ≠ 0
  | 0, h => by cases h
  | n + 1, h => by
    rw [qL] at h
    rcases List.mem_append.1 h with h | h
    · have := qL_mem h; omega
    · split at h
      · rw [List.mem_singleton.1 h]; exact ⟨by omega, Nat.le_refl _, by simpa using ‹brk c n ≠ 0›⟩
      · cases h
theorem qL_inc (c : List Int) : ∀ n, (qL c n).Pairwise (· < ·)
  | 0 => .nil
  | n + 1 => by
    rw [qL]
    refine List.pairwise_append.2 ⟨qL_inc c n, ?_, fun a ha x hx => ?_⟩
    · split <;> simp
    · have := (qL_mem ha).2.1
      split at hx
      · rw [List.mem_singleton.1 hx]; omega
      · cases hx
theorem brkI_q (c b : List Int) : ∀ n, brkI c b n = (qL c n).map fun q => (iAt b ((q : Nat) : Int), brk c (q - 1))
  | 0 => rfl
  | n + 1 => by
    rw [brkI, qL, brkI_q c b n, List.map_append]
    congr 1
    split <;> rfl
theorem brkV_q {s : ByteArray} (hok : okS s = true) (i : Nat) (h : i < (brkV s).length) : ∃ q : Nat, (qL (scL s) ((scL s).length - 1))[i]? = some q ∧ (brkV s)[i]? = some [.v (.int .i64 (iAt (bnds (cls s)) q)), .v (.int .i64 (brk (scL s) (q - 1)))] := by
  unfold brkV at h ⊢
  rw [if_pos hok, brkI_enc, brkI_q] at h ⊢
  rw [List.length_map, List.length_map] at h
  refine ⟨(qL (scL s) ((scL s).length - 1))[i], List.getElem?_eq_getElem h, ?_⟩
  rw [List.getElem?_map, List.getElem?_map, List.getElem?_eq_getElem h]; rfl
theorem brk_blank {c : List Int} {i : Nat} (h : brk c i ≠ 0) (h2 : brk c i ≠ 2) : iAt c ((i : Int) + 1) ≠ 2 := by
  intro e
  rw [brk_eq] at h h2
  unfold brkP at h h2
  by_cases e1 : iAt c i = 1
  · rw [if_pos e1] at h2; exact h2 rfl
  · rw [if_neg e1, if_pos (.inr e)] at h; exact h rfl
/-- no break within a token -/
theorem brk_in {c : List Int} {i q : Nat} (h : i < c.length) (h1 : i < q) (h2 : q < endT c i) : brk c (q - 1) = 0 := by
  obtain ⟨p, rfl⟩ : ∃ p, q = p + 1 := ⟨q - 1, by omega⟩
  rw [Nat.add_sub_cancel, brk_eq, show ((p : Nat) : Int) + 1 = ((p + 1 : Nat) : Int) by omega]
  have hp : (WrdP c i ∧ (iAt c p = 5 ∨ iAt c p = 6 ∨ iAt c p = 11 ∨ iAt c p = 10)) ∨ (BlkP c i ∧ (iAt c p = 2 ∨ iAt c p = 3)) := by
    rcases Nat.eq_or_lt_of_le (Nat.le_of_lt_succ h1) with e | e
    · subst e
      rcases endT_inner h h1 h2 with ⟨a, _⟩ | ⟨a, _⟩
      · refine .inl ⟨a, ?_⟩; rcases a with a | a <;> omega
      · exact .inr ⟨a, a⟩
    · rcases endT_inner h e (by omega) with ⟨a, b⟩ | ⟨a, b⟩
      · refine .inl ⟨a, ?_⟩; unfold InsP at b; omega
      · exact .inr ⟨a, b⟩
  have hq := endT_inner h h1 h2
  have hsp : ¬ SpP c p := by
    rintro ⟨a, _⟩
    rcases hp with ⟨_, hp⟩ | ⟨_, hp⟩ <;> omega
  unfold brkP
  rcases hq with ⟨w, hq⟩ | ⟨w, hq⟩
  · rcases hp with ⟨_, hp⟩ | ⟨w', hp⟩
    · unfold InsP at hq
      rw [if_neg hsp]
      repeat' split
      all_goals first | rfl | (exfalso; omega)
    · exfalso; rcases w with w | w <;> rcases w' with w' | w' <;> omega
  · rcases hp with ⟨w', hp⟩ | ⟨_, hp⟩
    · exfalso; rcases w with w | w <;> rcases w' with w' | w' <;> omega
    · unfold BlkP at hq
      rw [if_neg hsp]
      repeat' split
      all_goals first | rfl | (exfalso; omega)
theorem pos_between (c : List Int) (q : Nat) : ∀ m, q < posT c m → ∃ k, k < m ∧ posT c k ≤ q ∧ q < posT c (k + 1)
  | 0, h => by rw [posT] at h; omega
  | m + 1, h => by
    rcases Nat.lt_or_ge q (posT c m) with h1 | h1
    · obtain ⟨k, a, b, d⟩ := pos_between c q m h1; exact ⟨k, by omega, b, d⟩
    · exact ⟨m, by omega, h1, h⟩
theorem brk_border {c : List Int} {q : Nat} (h1 : 1 ≤ q) (h2 : q < c.length) (hb : brk c (q - 1) ≠ 0) : ∃ m, m < nT c ∧ posT c m = q := by
  obtain ⟨m, hm, a, b⟩ := pos_between c q (nT c) (by rw [nT_end]; exact h2)
  refine ⟨m, hm, ?_⟩
  rcases Nat.eq_or_lt_of_le a with e | e
  · exact e
  · exfalso
    have hp := nT_lt.1 hm
    have he : posT c (m + 1) = endT c (posT c m) := by rw [posT, if_pos hp]
    exact hb (brk_in hp e (he ▸ b))
set_option maxHeartbeats 4000000 in
set_option maxRecDepth 100000 in
theorem SegmentCovers_spec (s : ByteArray) : Fun Tryd.prog 4 [.v (.string s)] (.v (.bool true)) := by
  refine Fun.enter (n := 154) (rs := [.tmp 2]) Tryd.func4 rfl Tryd.ntmps4 Tryd.results4 rfl (fun w F => ?_)
  refine TC.seq ?_; refine TC.region ?_; refine TL.run1 (pure_assign rfl) rfl ?_; refine TL.nil' ?_; refine TC.seq ?_; refine TC.region ?_; refine TL.run1 (pure_move rfl) rfl ?_; refine TL.run1 (pure_call (short_spec s) (.cons rfl .nil) Tryd.call12) rfl ?_; refine TL.run1 (pure_assign rfl) rfl ?_; refine TL.nil' ?_; refine TC.seq ?_
  obtain ⟨c, hcd⟩ : ∃ c, shortS s = c := ⟨_, rfl⟩
  rw [hcd]
  have hcs : c.size ≤ 240 := hcd ▸ shortS_size s
  refine TC.region ?_; refine TL.run1 (pure_move rfl) rfl ?_; refine TL.run1 (pure_call (Tokens_spec c (by omega)) (.cons rfl .nil) Tryd.call13) rfl ?_; refine TL.run1 (pure_move rfl) rfl ?_; refine TL.run1 (pure_extract rfl rfl) rfl ?_; refine TL.run1 (pure_extract rfl rfl) rfl ?_; refine TL.run1 (pure_assign rfl) rfl ?_; refine TL.run1 (pure_assign rfl) rfl ?_; refine TL.nil' ?_; refine TC.seq ?_; refine TC.region ?_; refine TL.run1 (pure_move rfl) rfl ?_; refine TL.run1 (pure_call (Points_spec c (by omega)) (.cons rfl .nil) Tryd.call16) rfl ?_; refine TL.run1 (pure_move rfl) rfl ?_; refine TL.run1 (pure_extract rfl rfl) rfl ?_; refine TL.run1 (pure_extract rfl rfl) rfl ?_; refine TL.run1 (pure_extract rfl rfl) rfl ?_; refine TL.run1 (pure_assign rfl) rfl ?_; refine TL.run1 (pure_assign rfl) rfl ?_; refine TL.run1 (pure_assign rfl) rfl ?_; refine TL.nil' ?_; refine TC.seq ?_; refine TC.regionCut [26, 27, 28, 29, 30, 31] 31 (okS c = false) ?_ ?_
  · skip
    refine TL.run1 (pure_call (known_spec) .nil Tryd.call15) rfl ?_; refine TL.run1 (pure_not rfl) rfl ?_; refine TL.run1 (pure_move rfl) rfl ?_
    first | refine TL.splitP 28 rfl (fun hg28 => ?_) (fun hg28 => ?_) | refine TL.split 28 rfl (fun hg28 => ?_) (fun hg28 => ?_)
    · try dsimp only at hg28
      refine TL.passG rfl rfl rfl rfl ?_; refine TL.passG rfl rfl rfl rfl ?_; refine TL.run1 (pure_pick_true rfl rfl) rfl ?_; refine TL.cutEnd (by repeat (first | exact Same.refl _ _ | refine Same.put rfl ?_)) rfl ?_
      first | (simp_all; done) | grind
    · try dsimp only at hg28
      refine TL.runG rfl rfl (pure_move rfl) rfl ?_; refine TL.runG rfl rfl (pure_not rfl) rfl ?_; refine TL.run1 (pure_pick_false rfl rfl) rfl ?_; refine TL.cutEnd (by repeat (first | exact Same.refl _ _ | refine Same.put rfl ?_)) rfl ?_
      first | (simp_all; done) | grind
  first | refine TC.condD rfl (fun hc31 => ?_) (fun hc31 => ?_) | refine TC.condN rfl (fun hc31 => ?_) (fun hc31 => ?_) | refine TC.cond rfl (fun hc31 => ?_) (fun hc31 => ?_)
  · try dsimp only at hc31
    have hok : okS c = false := hc31
    have hE := errU_not hok
    refine TC.regionCut [32, 33, 34, 35, 36, 2] 2 (True) ?_ ?_
    · skip
      refine TL.run1 (pure_call (known_spec) .nil Tryd.call15) rfl ?_; refine TL.run1 (pure_move rfl) rfl ?_
      first | refine TL.splitP 33 rfl (fun hg33 => ?_) (fun hg33 => ?_) | refine TL.split 33 rfl (fun hg33 => ?_) (fun hg33 => ?_)
      · try dsimp only at hg33
        refine TL.runG rfl rfl (pure_move rfl) rfl ?_; refine TL.runG rfl rfl (pure_eql rfl rfl) rfl ?_; refine TL.run1 (pure_pick_true rfl rfl) rfl ?_; refine TL.run1 (pure_assign rfl) rfl ?_; refine TL.cutEnd (by repeat (first | exact Same.refl _ _ | refine Same.put rfl ?_)) rfl ?_
        first | (simp_all; done) | grind
      · try dsimp only at hg33
        refine TL.passG rfl rfl rfl rfl ?_; refine TL.passG rfl rfl rfl rfl ?_; refine TL.run1 (pure_pick_false rfl rfl) rfl ?_; refine TL.run1 (pure_assign rfl) rfl ?_; refine TL.cutEnd (by repeat (first | exact Same.refl _ _ | refine Same.put rfl ?_)) rfl ?_
        first | (simp_all; done) | grind
    refine TC.ret ?_; refine then_ret ?_
    exact ret_bool rfl (by simp)
  · try dsimp only at hc31
    have hok : okS c = true := by (cases h : okS c with | true => rfl | false => exact absurd h hc31)
    obtain ⟨v1, v2, v3, _, v5⟩ := okV hok
    have hcl := cAll_len_le (cls c)
    rw [cls_len] at hcl
    have hnl := nR_le c
    have hsl := scL_len c
    have hbl0 : (bnds (cls c)).length = (cAll (cls c)).length + 1 := ends_len _
    have hbe := bnds_end c
    have hinc := inc_bnds (cls c)
    have hbz := bnds_zero (cls c)
    have hpl := pts_len c
    have hkp := encI_len (pts c)
    have htv : tokV c = encTk (scL c) (bnds (cls c)) := by unfold tokV; rw [if_pos hok]
    have hsg := scL_get c
    obtain ⟨cc, hccd⟩ : ∃ cc, scL c = cc := ⟨_, rfl⟩
    obtain ⟨b, hbd⟩ : ∃ b, bnds (cls c) = b := ⟨_, rfl⟩
    rw [hccd] at hsl hsg htv
    rw [hbd] at hbl0 hbe hinc hbz hsg htv
    have hbl : b.length = cc.length + 1 := by omega
    have hbe2 : iAt b ((cc.length : Nat) : Int) = nR c := by rw [hsl]; exact hbe
    have hkb := encI_len b
    have hnt := nT_le cc
    have htl := encTk_len cc b
    rw [hsl] at hnt
    rw [htv, v1]
    skip
    refine TC.skip' ?_; refine TC.seq ?_; refine TC.region ?_; refine TL.run1 (pure_move rfl) rfl ?_; refine TL.run1 (pure_call (RBnd_spec c (by omega)) (.cons rfl .nil) Tryd.call17) rfl ?_; refine TL.run1 (pure_assign rfl) rfl ?_; refine TL.nil' ?_; refine TC.seq ?_
    rw [hbd]
    refine TC.region ?_; refine TL.run1 (pure_assign rfl) rfl ?_; refine TL.nil' ?_; refine TC.seq ?_; refine TC.seq ?_; refine TC.region ?_; refine TL.run1 (pure_assign rfl) rfl ?_; refine TL.nil' ?_; refine TC.block ?_; refine TC.loopX (X := Nat) (fun i => [(3, .sl 3 (encTk cc b)), (5, .sl 1 (encI (pts c))), (8, .sl 1 (encI b)), (9, .v (.int .i64 (iAt b ((posT cc i : Nat) : Int)))), (10, .v (.int .i64 i))]) (fun i => []) (fun i => (i ≤ nT cc)) (fun i => nT cc - i) (0) ⟨by (try dsimp only); rw [show iAt b ((posT cc 0 : Nat) : Int) = 0 from hbz]; repeat (first | exact Agree.nil | refine Agree.cons rfl ?_), by skip; repeat (first | exact List.nil_sublist _ | exact List.Sublist.refl _ | apply List.Sublist.cons_cons | apply List.Sublist.cons)⟩ ?_ ?_
    · skip
      exact Nat.zero_le _
    intro i
    intro h1
    show TC _ _ _ (Env.of [(3, .sl 3 (encTk cc b)), (5, .sl 1 (encI (pts c))), (8, .sl 1 (encI b)), (9, .v (.int .i64 (iAt b ((posT cc i : Nat) : Int)))), (10, .v (.int .i64 i))]) []
    refine TC.seq ?_; refine TC.seq ?_; refine TC.region ?_; refine TL.run1 (pure_move rfl) rfl ?_; refine TL.run1 (pure_move rfl) rfl ?_
    first | refine TL.run1 (pure_len Ty.sl23 rfl) rfl ?_ | refine TL.run1 (pure_len_row Ty.sl23 rfl (by repeat (first | exact List.Mem.head _ | apply List.Mem.tail))) rfl ?_ | refine TL.run1 (pure_len_nil Ty.sl23 rfl) rfl ?_
    refine TL.run1 (pure_lss rfl rfl) rfl ?_; refine TL.nil' ?_
    first | refine TC.condD rfl (fun hc42 => ?_) (fun hc42 => ?_) | refine TC.condN rfl (fun hc42 => ?_) (fun hc42 => ?_) | refine TC.cond rfl (fun hc42 => ?_) (fun hc42 => ?_)
    · try dsimp only at hc42
      refine TC.skip' ?_; refine TC.seq ?_; refine TC.block ?_; refine TC.seq ?_
      have hin : i < nT cc := by omega
      have hpp := nT_lt.1 hin
      have hlt := posT_lt hpp
      have hle := posT_le cc (i + 1)
      have hrow : (encTk cc b)[(((i : Nat) : Int)).toNat]? = some [.v (.int .i64 (kindT cc (posT cc i))), .v (.int .i64 (iAt b ((posT cc i : Nat) : Int))), .v (.int .i64 (iAt b ((posT cc (i + 1) : Nat) : Int)))] := encTk_get cc b i (by omega)
      have hii := inc_iAt hinc hlt (by omega)
      have hkr := kindT_range cc (posT cc i)
      refine TC.drawCut [45, 46, 47, 48, 49, 50, 51, 52, 53, 54, 55, 56, 57, 58, 59, 60, 61, 62, 63, 64, 65, 66, 67, 68, 69, 70, 71, 72, 73, 74, 75, 76, 77, 78, 79, 80] 80 (False) Ty.follows (by kernel_rfl) ?_ ?_
      · skip
        refine TD.run1 (pure_move rfl) rfl ?_; refine TD.run1 (pure_move rfl) rfl ?_; refine TD.run1 (pure_indexAddr Ty.sl23 rfl rfl (by omega) hrow (List.cons_ne_nil _ _)) rfl ?_
        first | refine TD.run1 (pure_fieldAddr Ty.f32_1 rfl (.succ (.zero _)) (List.cons_ne_nil _ _)) rfl ?_ | refine TD.run1 (pure_fieldAddr_own Ty.f32_1 rfl) rfl ?_
        first | refine TD.run1 (pure_load1 Ty.one3 rfl) rfl ?_ | refine TD.run1 (pure_load1_own Ty.one3 rfl (by repeat (first | exact List.Mem.head _ | apply List.Mem.tail)) (by repeat (first | exact DropR.zero _ | apply DropR.succ))) rfl ?_
        refine TD.run1 (pure_move rfl) rfl ?_; refine TD.run1 (pure_neq rfl rfl) rfl ?_; refine TD.run1 (pure_move rfl) rfl ?_
        first | refine TD.splitP 52 rfl (fun hg52 => ?_) (fun hg52 => ?_) | refine TD.split 52 rfl (fun hg52 => ?_) (fun hg52 => ?_)
        · try dsimp only at hg52
          exact absurd rfl hg52
        · try dsimp only at hg52
          refine TD.runG rfl rfl (pure_move rfl) rfl ?_; refine TD.runG rfl rfl (pure_move rfl) rfl ?_; refine TD.runG rfl rfl (pure_indexAddr Ty.sl23 rfl rfl (by omega) hrow (List.cons_ne_nil _ _)) rfl ?_
          first | refine TD.runG rfl rfl (pure_fieldAddr Ty.f32_2 rfl (.succ (.succ (.zero _))) (List.cons_ne_nil _ _)) rfl ?_ | refine TD.runG rfl rfl (pure_fieldAddr_own Ty.f32_2 rfl) rfl ?_
          first | refine TD.runG rfl rfl (pure_load1 Ty.one3 rfl) rfl ?_ | refine TD.runG rfl rfl (pure_load1_own Ty.one3 rfl (by repeat (first | exact List.Mem.head _ | apply List.Mem.tail)) (by repeat (first | exact DropR.zero _ | apply DropR.succ))) rfl ?_
          refine TD.runG rfl rfl (pure_move rfl) rfl ?_; refine TD.runG rfl rfl (pure_move rfl) rfl ?_; refine TD.runG rfl rfl (pure_indexAddr Ty.sl23 rfl rfl (by omega) hrow (List.cons_ne_nil _ _)) rfl ?_
          first | refine TD.runG rfl rfl (pure_fieldAddr Ty.f32_1 rfl (.succ (.zero _)) (List.cons_ne_nil _ _)) rfl ?_ | refine TD.runG rfl rfl (pure_fieldAddr_own Ty.f32_1 rfl) rfl ?_
          first | refine TD.runG rfl rfl (pure_load1 Ty.one3 rfl) rfl ?_ | refine TD.runG rfl rfl (pure_load1_own Ty.one3 rfl (by repeat (first | exact List.Mem.head _ | apply List.Mem.tail)) (by repeat (first | exact DropR.zero _ | apply DropR.succ))) rfl ?_
          refine TD.runG rfl rfl (pure_leq rfl rfl) rfl ?_; refine TD.run1 (pure_pick_false rfl rfl) rfl ?_; refine TD.run1 (pure_move rfl) rfl ?_
          first | refine TD.splitP 65 rfl (fun hg65 => ?_) (fun hg65 => ?_) | refine TD.split 65 rfl (fun hg65 => ?_) (fun hg65 => ?_)
          · try dsimp only at hg65
            exfalso; omega
          · try dsimp only at hg65
            refine TD.runG rfl rfl (pure_move rfl) rfl ?_; refine TD.runG rfl rfl (pure_move rfl) rfl ?_; refine TD.runG rfl rfl (pure_indexAddr Ty.sl23 rfl rfl (by omega) hrow (List.cons_ne_nil _ _)) rfl ?_
            first | refine TD.runG rfl rfl (pure_fieldAddr Ty.f32_0 rfl (.zero _) (List.cons_ne_nil _ _)) rfl ?_ | refine TD.runG rfl rfl (pure_fieldAddr_own Ty.f32_0 rfl) rfl ?_
            first | refine TD.runG rfl rfl (pure_load1 Ty.one3 rfl) rfl ?_ | refine TD.runG rfl rfl (pure_load1_own Ty.one3 rfl (by repeat (first | exact List.Mem.head _ | apply List.Mem.tail)) (by repeat (first | exact DropR.zero _ | apply DropR.succ))) rfl ?_
            refine TD.runG rfl rfl (pure_lss rfl rfl) rfl ?_; refine TD.run1 (pure_pick_false rfl rfl) rfl ?_; refine TD.run1 (pure_move rfl) rfl ?_
            first | refine TD.splitP 73 rfl (fun hg73 => ?_) (fun hg73 => ?_) | refine TD.split 73 rfl (fun hg73 => ?_) (fun hg73 => ?_)
            · try dsimp only at hg73
              exfalso; omega
            · try dsimp only at hg73
              refine TD.runG rfl rfl (pure_move rfl) rfl ?_; refine TD.runG rfl rfl (pure_move rfl) rfl ?_; refine TD.runG rfl rfl (pure_indexAddr Ty.sl23 rfl rfl (by omega) hrow (List.cons_ne_nil _ _)) rfl ?_
              first | refine TD.runG rfl rfl (pure_fieldAddr Ty.f32_0 rfl (.zero _) (List.cons_ne_nil _ _)) rfl ?_ | refine TD.runG rfl rfl (pure_fieldAddr_own Ty.f32_0 rfl) rfl ?_
              first | refine TD.runG rfl rfl (pure_load1 Ty.one3 rfl) rfl ?_ | refine TD.runG rfl rfl (pure_load1_own Ty.one3 rfl (by repeat (first | exact List.Mem.head _ | apply List.Mem.tail)) (by repeat (first | exact DropR.zero _ | apply DropR.succ))) rfl ?_
              refine TD.runG rfl rfl (pure_gtr rfl rfl) rfl ?_; refine TD.run1 (pure_pick_false rfl rfl) rfl ?_; refine TD.cutEnd (by repeat (first | exact Same.refl _ _ | refine Same.put rfl ?_)) rfl ?_
              simp only [decide_eq_true_eq, iff_false]; omega
      first | refine TC.condD rfl (fun hc80 => ?_) (fun hc80 => ?_) | refine TC.condN rfl (fun hc80 => ?_) (fun hc80 => ?_) | refine TC.cond rfl (fun hc80 => ?_) (fun hc80 => ?_)
      · try dsimp only at hc80
        all_goals exact hc80.elim
      · try dsimp only at hc80
        refine TC.skip' ?_; refine TC.seq ?_
        have hrow : (encTk cc b)[(((i : Nat) : Int)).toNat]? = some [.v (.int .i64 (kindT cc (posT cc i))), .v (.int .i64 (iAt b ((posT cc i : Nat) : Int))), .v (.int .i64 (iAt b ((posT cc (i + 1) : Nat) : Int)))] := encTk_get cc b i (by omega)
        refine TC.region ?_; refine TL.run1 (pure_move rfl) rfl ?_; refine TL.run1 (pure_move rfl) rfl ?_; refine TL.run1 (pure_indexAddr Ty.sl23 rfl rfl (by omega) hrow (List.cons_ne_nil _ _)) rfl ?_
        first | refine TL.run1 (pure_fieldAddr Ty.f32_2 rfl (.succ (.succ (.zero _))) (List.cons_ne_nil _ _)) rfl ?_ | refine TL.run1 (pure_fieldAddr_own Ty.f32_2 rfl) rfl ?_
        first | refine TL.run1 (pure_load1 Ty.one3 rfl) rfl ?_ | refine TL.run1 (pure_load1_own Ty.one3 rfl (by repeat (first | exact List.Mem.head _ | apply List.Mem.tail)) (by repeat (first | exact DropR.zero _ | apply DropR.succ))) rfl ?_
        refine TL.run1 (pure_assign rfl) rfl ?_; refine TL.nil' ?_; refine TC.seq ?_; refine TC.region ?_; refine TL.run1 (pure_assign rfl) rfl ?_; refine TL.nil' ?_; refine TC.seq ?_; refine TC.seq ?_; refine TC.region ?_; refine TL.run1 (pure_assign rfl) rfl ?_; refine TL.nil' ?_; refine TC.block ?_; refine TC.loopX (X := Nat) (fun k => [(3, .sl 3 (encTk cc b)), (5, .sl 1 (encI (pts c))), (8, .sl 1 (encI b)), (9, .v (.int .i64 (iAt b ((posT cc (i + 1) : Nat) : Int)))), (10, .v (.int .i64 i)), (11, .v (.bool (isTo b (iAt b ((posT cc (i + 1) : Nat) : Int)) k))), (12, .v (.int .i64 k))]) (fun k => []) (fun k => (k ≤ b.length)) (fun k => b.length - k) (0) ⟨by skip; repeat (first | exact Agree.nil | refine Agree.cons rfl ?_), by skip; repeat (first | exact List.nil_sublist _ | exact List.Sublist.refl _ | apply List.Sublist.cons_cons | apply List.Sublist.cons)⟩ ?_ ?_
        · skip
          exact Nat.zero_le _
        intro k
        intro k1
        show TC _ _ _ (Env.of [(3, .sl 3 (encTk cc b)), (5, .sl 1 (encI (pts c))), (8, .sl 1 (encI b)), (9, .v (.int .i64 (iAt b ((posT cc (i + 1) : Nat) : Int)))), (10, .v (.int .i64 i)), (11, .v (.bool (isTo b (iAt b ((posT cc (i + 1) : Nat) : Int)) k))), (12, .v (.int .i64 k))]) []
        refine TC.seq ?_; refine TC.seq ?_; refine TC.region ?_; refine TL.run1 (pure_move rfl) rfl ?_; refine TL.run1 (pure_move rfl) rfl ?_
        first | refine TL.run1 (pure_len Ty.sl35 rfl) rfl ?_ | refine TL.run1 (pure_len_row Ty.sl35 rfl (by repeat (first | exact List.Mem.head _ | apply List.Mem.tail))) rfl ?_ | refine TL.run1 (pure_len_nil Ty.sl35 rfl) rfl ?_
        refine TL.run1 (pure_lss rfl rfl) rfl ?_; refine TL.nil' ?_
        first | refine TC.condD rfl (fun hc89 => ?_) (fun hc89 => ?_) | refine TC.condN rfl (fun hc89 => ?_) (fun hc89 => ?_) | refine TC.cond rfl (fun hc89 => ?_) (fun hc89 => ?_)
        · try dsimp only at hc89
          refine TC.skip' ?_; refine TC.seq ?_; refine TC.block ?_
          have hrb : (encI b)[((k : Nat) : Int).toNat]? = some [.v (.int .i64 (iAt b k))] := encI_get b k (by omega) (by omega)
          refine TC.region ?_; refine TL.run1 (pure_move rfl) rfl ?_; refine TL.run1 (pure_move rfl) rfl ?_
          first | refine TL.splitP 93 rfl (fun hg93 => ?_) (fun hg93 => ?_) | refine TL.split 93 rfl (fun hg93 => ?_) (fun hg93 => ?_)
          · try dsimp only at hg93
            refine TL.passG rfl rfl rfl rfl ?_; refine TL.passG rfl rfl rfl rfl ?_; refine TL.passG rfl rfl rfl rfl ?_; refine TL.passG rfl rfl rfl rfl ?_; refine TL.passG rfl rfl rfl rfl ?_; refine TL.passG rfl rfl rfl rfl ?_; refine TL.run1 (pure_pick_true rfl rfl) rfl ?_; refine TL.run1 (pure_assign rfl) rfl ?_; refine TL.nil ?_; refine block_normal ?_; refine then_normal ?_; refine TC.region ?_; refine TL.run1 (pure_move rfl) rfl ?_; refine TL.run1 (pure_add rfl rfl (mkI64 (by omega) (by omega))) rfl ?_; refine TL.run1 (pure_assign rfl) rfl ?_; refine TL.nil ?_
            have hst : isTo b (iAt b ((posT cc (i + 1) : Nat) : Int)) (k + 1) = true := by (rw [isTo, hg93]; exact Bool.true_or _)
            refine loop_next (k + 1) ⟨by ((try dsimp only); rw [hst, show (((k + 1 : Nat)) : Int) = (k : Int) + 1 by omega]; repeat (first | exact Agree.nil | refine Agree.cons rfl ?_)), by repeat (first | exact List.nil_sublist _ | exact List.Sublist.refl _ | apply List.Sublist.cons_cons | apply List.Sublist.cons)⟩ (show k + 1 ≤ _ by omega) (by omega)
          · try dsimp only at hg93
            refine TL.runG rfl rfl (pure_move rfl) rfl ?_; refine TL.runG rfl rfl (pure_move rfl) rfl ?_; refine TL.runG rfl rfl (pure_indexAddr Ty.sl35 rfl rfl (by omega) hrb (List.cons_ne_nil _ _)) rfl ?_
            first | refine TL.runG rfl rfl (pure_load1 Ty.one3 rfl) rfl ?_ | refine TL.runG rfl rfl (pure_load1_own Ty.one3 rfl (by repeat (first | exact List.Mem.head _ | apply List.Mem.tail)) (by repeat (first | exact DropR.zero _ | apply DropR.succ))) rfl ?_
            refine TL.runG rfl rfl (pure_move rfl) rfl ?_; refine TL.runG rfl rfl (pure_eql rfl rfl) rfl ?_; refine TL.run1 (pure_pick_false rfl rfl) rfl ?_; refine TL.run1 (pure_assign rfl) rfl ?_; refine TL.nil ?_; refine block_normal ?_; refine then_normal ?_; refine TC.region ?_; refine TL.run1 (pure_move rfl) rfl ?_; refine TL.run1 (pure_add rfl rfl (mkI64 (by omega) (by omega))) rfl ?_; refine TL.run1 (pure_assign rfl) rfl ?_; refine TL.nil ?_
            have hst : isTo b (iAt b ((posT cc (i + 1) : Nat) : Int)) (k + 1) = decide (iAt b k = (iAt b ((posT cc (i + 1) : Nat) : Int))) := by (rw [isTo, hg93]; rfl)
            refine loop_next (k + 1) ⟨by ((try dsimp only); rw [hst, show (((k + 1 : Nat)) : Int) = (k : Int) + 1 by omega]; repeat (first | exact Agree.nil | refine Agree.cons rfl ?_)), by repeat (first | exact List.nil_sublist _ | exact List.Sublist.refl _ | apply List.Sublist.cons_cons | apply List.Sublist.cons)⟩ (show k + 1 ≤ _ by omega) (by omega)
        · try dsimp only at hc89
          refine TC.exit ?_; refine then_exit ?_; refine loop_exit ?_; refine block_here ?_; refine then_normal ?_
          have hkk : k = b.length := by omega
          have hist : isTo b (iAt b ((posT cc (i + 1) : Nat) : Int)) k = true := isTo_true (j := posT cc (i + 1)) rfl (by omega)
          rw [hist]
          have hrow : (encTk cc b)[(((i : Nat) : Int)).toNat]? = some [.v (.int .i64 (kindT cc (posT cc i))), .v (.int .i64 (iAt b ((posT cc i : Nat) : Int))), .v (.int .i64 (iAt b ((posT cc (i + 1) : Nat) : Int)))] := encTk_get cc b i (by omega)
          refine TC.drawCut [101, 102, 103, 104, 105, 106, 107, 108, 109, 110, 111, 112, 113, 114, 115, 116, 117, 118, 119, 120, 121, 122, 123, 124, 125, 126, 127, 128, 129, 130, 131, 132, 133, 134, 135, 136, 137, 138, 139, 140, 141, 142, 143, 144, 145, 146, 147, 148, 149] 149 (False) Ty.follows (by kernel_rfl) ?_ ?_
          · skip
            refine TD.run1 (pure_move rfl) rfl ?_; refine TD.run1 (pure_not rfl) rfl ?_; refine TD.run1 (pure_move rfl) rfl ?_
            first | refine TD.splitP 103 rfl (fun hg103 => ?_) (fun hg103 => ?_) | refine TD.split 103 rfl (fun hg103 => ?_) (fun hg103 => ?_)
            · try dsimp only at hg103
              exact absurd hg103 (by decide)
            · try dsimp only at hg103
              refine TD.runG rfl rfl (pure_move rfl) rfl ?_; refine TD.runG rfl rfl (pure_gtr rfl rfl) rfl ?_; refine TD.runG rfl rfl (pure_move rfl) rfl ?_
              first | refine TD.splitP 106 rfl (fun hg106 => ?_) (fun hg106 => ?_) | refine TD.split 106 rfl (fun hg106 => ?_) (fun hg106 => ?_)
              · try dsimp only at hg106
                have hi0 : 0 < i := by (first | omega | (have h := hg106; simp only [decide_eq_true_eq] at h; omega))
                have hrowm : (encTk cc b)[(((i : Nat) : Int) - 1).toNat]? = some [.v (.int .i64 (kindT cc (posT cc (i - 1)))), .v (.int .i64 (iAt b ((posT cc (i - 1) : Nat) : Int))), .v (.int .i64 (iAt b ((posT cc ((i - 1) + 1) : Nat) : Int)))] := (by rw [show (((i : Nat) : Int) - 1).toNat = (i - 1) by omega]; exact encTk_get cc b ((i - 1)) (by omega))
                obtain ⟨nb1, nb2⟩ := nb_kind (c := cc) (m := i - 1) (by omega)
                rw [show i - 1 + 1 = i by omega] at nb1 nb2
                refine TD.runG rfl rfl (pure_move rfl) rfl ?_; refine TD.runG rfl rfl (pure_move rfl) rfl ?_; refine TD.runG rfl rfl (pure_indexAddr Ty.sl23 rfl rfl (by omega) hrow (List.cons_ne_nil _ _)) rfl ?_
                first | refine TD.runG rfl rfl (pure_fieldAddr Ty.f32_0 rfl (.zero _) (List.cons_ne_nil _ _)) rfl ?_ | refine TD.runG rfl rfl (pure_fieldAddr_own Ty.f32_0 rfl) rfl ?_
                first | refine TD.runG rfl rfl (pure_load1 Ty.one3 rfl) rfl ?_ | refine TD.runG rfl rfl (pure_load1_own Ty.one3 rfl (by repeat (first | exact List.Mem.head _ | apply List.Mem.tail)) (by repeat (first | exact DropR.zero _ | apply DropR.succ))) rfl ?_
                refine TD.runG rfl rfl (pure_move rfl) rfl ?_; refine TD.runG rfl rfl (pure_move rfl) rfl ?_; refine TD.runG rfl rfl (pure_sub rfl rfl (mkI64 (by omega) (by omega))) rfl ?_; refine TD.runG rfl rfl (pure_indexAddr Ty.sl23 rfl rfl (by omega) hrowm (List.cons_ne_nil _ _)) rfl ?_
                first | refine TD.runG rfl rfl (pure_fieldAddr Ty.f32_0 rfl (.zero _) (List.cons_ne_nil _ _)) rfl ?_ | refine TD.runG rfl rfl (pure_fieldAddr_own Ty.f32_0 rfl) rfl ?_
                first | refine TD.runG rfl rfl (pure_load1 Ty.one3 rfl) rfl ?_ | refine TD.runG rfl rfl (pure_load1_own Ty.one3 rfl (by repeat (first | exact List.Mem.head _ | apply List.Mem.tail)) (by repeat (first | exact DropR.zero _ | apply DropR.succ))) rfl ?_
                refine TD.runG rfl rfl (pure_eql rfl rfl) rfl ?_; refine TD.runG rfl rfl (pure_pick_true rfl rfl) rfl ?_; refine TD.runG rfl rfl (pure_move rfl) rfl ?_
                first | refine TD.splitP 120 rfl (fun hg120 => ?_) (fun hg120 => ?_) | refine TD.split 120 rfl (fun hg120 => ?_) (fun hg120 => ?_)
                · try dsimp only at hg120
                  refine TD.runG rfl rfl (pure_move rfl) rfl ?_; refine TD.runG rfl rfl (pure_move rfl) rfl ?_; refine TD.runG rfl rfl (pure_indexAddr Ty.sl23 rfl rfl (by omega) hrow (List.cons_ne_nil _ _)) rfl ?_
                  first | refine TD.runG rfl rfl (pure_fieldAddr Ty.f32_0 rfl (.zero _) (List.cons_ne_nil _ _)) rfl ?_ | refine TD.runG rfl rfl (pure_fieldAddr_own Ty.f32_0 rfl) rfl ?_
                  first | refine TD.runG rfl rfl (pure_load1 Ty.one3 rfl) rfl ?_ | refine TD.runG rfl rfl (pure_load1_own Ty.one3 rfl (by repeat (first | exact List.Mem.head _ | apply List.Mem.tail)) (by repeat (first | exact DropR.zero _ | apply DropR.succ))) rfl ?_
                  refine TD.runG rfl rfl (pure_eql rfl rfl) rfl ?_; refine TD.runG rfl rfl (pure_pick_true rfl rfl) rfl ?_; refine TD.run1 (pure_pick_false rfl rfl) rfl ?_; refine TD.run1 (pure_move rfl) rfl ?_
                  first | refine TD.splitP 129 rfl (fun hg129 => ?_) (fun hg129 => ?_) | refine TD.split 129 rfl (fun hg129 => ?_) (fun hg129 => ?_)
                  · try dsimp only at hg129
                    exact absurd ⟨hg120, hg129⟩ nb1
                  · try dsimp only at hg129
                    refine TD.runG rfl rfl (pure_move rfl) rfl ?_; refine TD.runG rfl rfl (pure_gtr rfl rfl) rfl ?_; refine TD.runG rfl rfl (pure_move rfl) rfl ?_
                    first | refine TD.splitP 132 rfl (fun hg132 => ?_) (fun hg132 => ?_) | refine TD.split 132 rfl (fun hg132 => ?_) (fun hg132 => ?_)
                    · try dsimp only at hg132
                      have hi0 : 0 < i := by (first | omega | (have h := hg132; simp only [decide_eq_true_eq] at h; omega))
                      have hrowm : (encTk cc b)[(((i : Nat) : Int) - 1).toNat]? = some [.v (.int .i64 (kindT cc (posT cc (i - 1)))), .v (.int .i64 (iAt b ((posT cc (i - 1) : Nat) : Int))), .v (.int .i64 (iAt b ((posT cc ((i - 1) + 1) : Nat) : Int)))] := (by rw [show (((i : Nat) : Int) - 1).toNat = (i - 1) by omega]; exact encTk_get cc b ((i - 1)) (by omega))
                      obtain ⟨nb1, nb2⟩ := nb_kind (c := cc) (m := i - 1) (by omega)
                      rw [show i - 1 + 1 = i by omega] at nb1 nb2
                      refine TD.runG rfl rfl (pure_move rfl) rfl ?_; refine TD.runG rfl rfl (pure_move rfl) rfl ?_; refine TD.runG rfl rfl (pure_indexAddr Ty.sl23 rfl rfl (by omega) hrow (List.cons_ne_nil _ _)) rfl ?_
                      first | refine TD.runG rfl rfl (pure_fieldAddr Ty.f32_0 rfl (.zero _) (List.cons_ne_nil _ _)) rfl ?_ | refine TD.runG rfl rfl (pure_fieldAddr_own Ty.f32_0 rfl) rfl ?_
                      first | refine TD.runG rfl rfl (pure_load1 Ty.one3 rfl) rfl ?_ | refine TD.runG rfl rfl (pure_load1_own Ty.one3 rfl (by repeat (first | exact List.Mem.head _ | apply List.Mem.tail)) (by repeat (first | exact DropR.zero _ | apply DropR.succ))) rfl ?_
                      refine TD.runG rfl rfl (pure_leq rfl rfl) rfl ?_; refine TD.runG rfl rfl (pure_pick_true rfl rfl) rfl ?_; refine TD.runG rfl rfl (pure_move rfl) rfl ?_
                      first | refine TD.splitP 140 rfl (fun hg140 => ?_) (fun hg140 => ?_) | refine TD.split 140 rfl (fun hg140 => ?_) (fun hg140 => ?_)
                      · try dsimp only at hg140
                        refine TD.runG rfl rfl (pure_move rfl) rfl ?_; refine TD.runG rfl rfl (pure_move rfl) rfl ?_; refine TD.runG rfl rfl (pure_sub rfl rfl (mkI64 (by omega) (by omega))) rfl ?_; refine TD.runG rfl rfl (pure_indexAddr Ty.sl23 rfl rfl (by omega) hrowm (List.cons_ne_nil _ _)) rfl ?_
                        first | refine TD.runG rfl rfl (pure_fieldAddr Ty.f32_0 rfl (.zero _) (List.cons_ne_nil _ _)) rfl ?_ | refine TD.runG rfl rfl (pure_fieldAddr_own Ty.f32_0 rfl) rfl ?_
                        first | refine TD.runG rfl rfl (pure_load1 Ty.one3 rfl) rfl ?_ | refine TD.runG rfl rfl (pure_load1_own Ty.one3 rfl (by repeat (first | exact List.Mem.head _ | apply List.Mem.tail)) (by repeat (first | exact DropR.zero _ | apply DropR.succ))) rfl ?_
                        refine TD.runG rfl rfl (pure_leq rfl rfl) rfl ?_; refine TD.runG rfl rfl (pure_pick_true rfl rfl) rfl ?_; refine TD.run1 (pure_pick_false rfl rfl) rfl ?_; refine TD.cutEnd (by repeat (first | exact Same.refl _ _ | refine Same.put rfl ?_)) rfl ?_
                        first | (simp only [decide_eq_true_eq, iff_false]; exact fun h => nb2 ⟨hg140, h⟩) | simp
                      · try dsimp only at hg140
                        refine TD.passG rfl rfl rfl rfl ?_; refine TD.passG rfl rfl rfl rfl ?_; refine TD.passG rfl rfl rfl rfl ?_; refine TD.passG rfl rfl rfl rfl ?_; refine TD.passG rfl rfl rfl rfl ?_; refine TD.passG rfl rfl rfl rfl ?_; refine TD.passG rfl rfl rfl rfl ?_; refine TD.runG rfl rfl (pure_pick_false rfl rfl) rfl ?_; refine TD.run1 (pure_pick_false rfl rfl) rfl ?_; refine TD.cutEnd (by repeat (first | exact Same.refl _ _ | refine Same.put rfl ?_)) rfl ?_
                        first | (simp only [decide_eq_true_eq, iff_false]; exact fun h => nb2 ⟨hg140, h⟩) | simp
                    · try dsimp only at hg132
                      refine TD.passG rfl rfl rfl rfl ?_; refine TD.passG rfl rfl rfl rfl ?_; refine TD.passG rfl rfl rfl rfl ?_; refine TD.passG rfl rfl rfl rfl ?_; refine TD.passG rfl rfl rfl rfl ?_; refine TD.passG rfl rfl rfl rfl ?_; refine TD.runG rfl rfl (pure_pick_false rfl rfl) rfl ?_; refine TD.runG rfl rfl (pure_move rfl) rfl ?_; refine TD.passG rfl rfl rfl rfl ?_; refine TD.passG rfl rfl rfl rfl ?_; refine TD.passG rfl rfl rfl rfl ?_; refine TD.passG rfl rfl rfl rfl ?_; refine TD.passG rfl rfl rfl rfl ?_; refine TD.passG rfl rfl rfl rfl ?_; refine TD.passG rfl rfl rfl rfl ?_; refine TD.runG rfl rfl (pure_pick_false rfl rfl) rfl ?_; refine TD.run1 (pure_pick_false rfl rfl) rfl ?_; refine TD.cutEnd (by repeat (first | exact Same.refl _ _ | refine Same.put rfl ?_)) rfl ?_
                      first | (simp only [decide_eq_true_eq, iff_false]; exact fun h => nb2 ⟨hg140, h⟩) | simp
                · try dsimp only at hg120
                  refine TD.passG rfl rfl rfl rfl ?_; refine TD.passG rfl rfl rfl rfl ?_; refine TD.passG rfl rfl rfl rfl ?_; refine TD.passG rfl rfl rfl rfl ?_; refine TD.passG rfl rfl rfl rfl ?_; refine TD.passG rfl rfl rfl rfl ?_; refine TD.runG rfl rfl (pure_pick_false rfl rfl) rfl ?_; refine TD.run1 (pure_pick_false rfl rfl) rfl ?_; refine TD.run1 (pure_move rfl) rfl ?_
                  first | refine TD.splitP 129 rfl (fun hg129 => ?_) (fun hg129 => ?_) | refine TD.split 129 rfl (fun hg129 => ?_) (fun hg129 => ?_)
                  · try dsimp only at hg129
                    exact absurd hg129 (by decide)
                  · try dsimp only at hg129
                    refine TD.runG rfl rfl (pure_move rfl) rfl ?_; refine TD.runG rfl rfl (pure_gtr rfl rfl) rfl ?_; refine TD.runG rfl rfl (pure_move rfl) rfl ?_
                    first | refine TD.splitP 132 rfl (fun hg132 => ?_) (fun hg132 => ?_) | refine TD.split 132 rfl (fun hg132 => ?_) (fun hg132 => ?_)
                    · try dsimp only at hg132
                      have hi0 : 0 < i := by (first | omega | (have h := hg132; simp only [decide_eq_true_eq] at h; omega))
                      have hrowm : (encTk cc b)[(((i : Nat) : Int) - 1).toNat]? = some [.v (.int .i64 (kindT cc (posT cc (i - 1)))), .v (.int .i64 (iAt b ((posT cc (i - 1) : Nat) : Int))), .v (.int .i64 (iAt b ((posT cc ((i - 1) + 1) : Nat) : Int)))] := (by rw [show (((i : Nat) : Int) - 1).toNat = (i - 1) by omega]; exact encTk_get cc b ((i - 1)) (by omega))
                      obtain ⟨nb1, nb2⟩ := nb_kind (c := cc) (m := i - 1) (by omega)
                      rw [show i - 1 + 1 = i by omega] at nb1 nb2
                      refine TD.runG rfl rfl (pure_move rfl) rfl ?_; refine TD.runG rfl rfl (pure_move rfl) rfl ?_; refine TD.runG rfl rfl (pure_indexAddr Ty.sl23 rfl rfl (by omega) hrow (List.cons_ne_nil _ _)) rfl ?_
                      first | refine TD.runG rfl rfl (pure_fieldAddr Ty.f32_0 rfl (.zero _) (List.cons_ne_nil _ _)) rfl ?_ | refine TD.runG rfl rfl (pure_fieldAddr_own Ty.f32_0 rfl) rfl ?_
                      first | refine TD.runG rfl rfl (pure_load1 Ty.one3 rfl) rfl ?_ | refine TD.runG rfl rfl (pure_load1_own Ty.one3 rfl (by repeat (first | exact List.Mem.head _ | apply List.Mem.tail)) (by repeat (first | exact DropR.zero _ | apply DropR.succ))) rfl ?_
                      refine TD.runG rfl rfl (pure_leq rfl rfl) rfl ?_; refine TD.runG rfl rfl (pure_pick_true rfl rfl) rfl ?_; refine TD.runG rfl rfl (pure_move rfl) rfl ?_
                      first | refine TD.splitP 140 rfl (fun hg140 => ?_) (fun hg140 => ?_) | refine TD.split 140 rfl (fun hg140 => ?_) (fun hg140 => ?_)
                      · try dsimp only at hg140
                        refine TD.runG rfl rfl (pure_move rfl) rfl ?_; refine TD.runG rfl rfl (pure_move rfl) rfl ?_; refine TD.runG rfl rfl (pure_sub rfl rfl (mkI64 (by omega) (by omega))) rfl ?_; refine TD.runG rfl rfl (pure_indexAddr Ty.sl23 rfl rfl (by omega) hrowm (List.cons_ne_nil _ _)) rfl ?_
                        first | refine TD.runG rfl rfl (pure_fieldAddr Ty.f32_0 rfl (.zero _) (List.cons_ne_nil _ _)) rfl ?_ | refine TD.runG rfl rfl (pure_fieldAddr_own Ty.f32_0 rfl) rfl ?_
                        first | refine TD.runG rfl rfl (pure_load1 Ty.one3 rfl) rfl ?_ | refine TD.runG rfl rfl (pure_load1_own Ty.one3 rfl (by repeat (first | exact List.Mem.head _ | apply List.Mem.tail)) (by repeat (first | exact DropR.zero _ | apply DropR.succ))) rfl ?_
                        refine TD.runG rfl rfl (pure_leq rfl rfl) rfl ?_; refine TD.runG rfl rfl (pure_pick_true rfl rfl) rfl ?_; refine TD.run1 (pure_pick_false rfl rfl) rfl ?_; refine TD.cutEnd (by repeat (first | exact Same.refl _ _ | refine Same.put rfl ?_)) rfl ?_
                        first | (simp only [decide_eq_true_eq, iff_false]; exact fun h => nb2 ⟨hg140, h⟩) | simp
                      · try dsimp only at hg140
                        refine TD.passG rfl rfl rfl rfl ?_; refine TD.passG rfl rfl rfl rfl ?_; refine TD.passG rfl rfl rfl rfl ?_; refine TD.passG rfl rfl rfl rfl ?_; refine TD.passG rfl rfl rfl rfl ?_; refine TD.passG rfl rfl rfl rfl ?_; refine TD.passG rfl rfl rfl rfl ?_; refine TD.runG rfl rfl (pure_pick_false rfl rfl) rfl ?_; refine TD.run1 (pure_pick_false rfl rfl) rfl ?_; refine TD.cutEnd (by repeat (first | exact Same.refl _ _ | refine Same.put rfl ?_)) rfl ?_
                        first | (simp only [decide_eq_true_eq, iff_false]; exact fun h => nb2 ⟨hg140, h⟩) | simp
                    · try dsimp only at hg132
                      refine TD.passG rfl rfl rfl rfl ?_; refine TD.passG rfl rfl rfl rfl ?_; refine TD.passG rfl rfl rfl rfl ?_; refine TD.passG rfl rfl rfl rfl ?_; refine TD.passG rfl rfl rfl rfl ?_; refine TD.passG rfl rfl rfl rfl ?_; refine TD.runG rfl rfl (pure_pick_false rfl rfl) rfl ?_; refine TD.runG rfl rfl (pure_move rfl) rfl ?_; refine TD.passG rfl rfl rfl rfl ?_; refine TD.passG rfl rfl rfl rfl ?_; refine TD.passG rfl rfl rfl rfl ?_; refine TD.passG rfl rfl rfl rfl ?_; refine TD.passG rfl rfl rfl rfl ?_; refine TD.passG rfl rfl rfl rfl ?_; refine TD.passG rfl rfl rfl rfl ?_; refine TD.runG rfl rfl (pure_pick_false rfl rfl) rfl ?_; refine TD.run1 (pure_pick_false rfl rfl) rfl ?_; refine TD.cutEnd (by repeat (first | exact Same.refl _ _ | refine Same.put rfl ?_)) rfl ?_
                      first | (simp only [decide_eq_true_eq, iff_false]; exact fun h => nb2 ⟨hg140, h⟩) | simp
              · try dsimp only at hg106
                refine TD.passG rfl rfl rfl rfl ?_; refine TD.passG rfl rfl rfl rfl ?_; refine TD.passG rfl rfl rfl rfl ?_; refine TD.passG rfl rfl rfl rfl ?_; refine TD.passG rfl rfl rfl rfl ?_; refine TD.passG rfl rfl rfl rfl ?_; refine TD.passG rfl rfl rfl rfl ?_; refine TD.passG rfl rfl rfl rfl ?_; refine TD.passG rfl rfl rfl rfl ?_; refine TD.passG rfl rfl rfl rfl ?_; refine TD.passG rfl rfl rfl rfl ?_; refine TD.passG rfl rfl rfl rfl ?_; refine TD.runG rfl rfl (pure_pick_false rfl rfl) rfl ?_; refine TD.runG rfl rfl (pure_move rfl) rfl ?_; refine TD.passG rfl rfl rfl rfl ?_; refine TD.passG rfl rfl rfl rfl ?_; refine TD.passG rfl rfl rfl rfl ?_; refine TD.passG rfl rfl rfl rfl ?_; refine TD.passG rfl rfl rfl rfl ?_; refine TD.passG rfl rfl rfl rfl ?_; refine TD.runG rfl rfl (pure_pick_false rfl rfl) rfl ?_; refine TD.run1 (pure_pick_false rfl rfl) rfl ?_; refine TD.run1 (pure_move rfl) rfl ?_
                first | refine TD.splitP 129 rfl (fun hg129 => ?_) (fun hg129 => ?_) | refine TD.split 129 rfl (fun hg129 => ?_) (fun hg129 => ?_)
                · try dsimp only at hg129
                  exact absurd hg129 (by decide)
                · try dsimp only at hg129
                  refine TD.runG rfl rfl (pure_move rfl) rfl ?_; refine TD.runG rfl rfl (pure_gtr rfl rfl) rfl ?_; refine TD.runG rfl rfl (pure_move rfl) rfl ?_
                  first | refine TD.splitP 132 rfl (fun hg132 => ?_) (fun hg132 => ?_) | refine TD.split 132 rfl (fun hg132 => ?_) (fun hg132 => ?_)
                  · try dsimp only at hg132
                    have hi0 : 0 < i := by (first | omega | (have h := hg132; simp only [decide_eq_true_eq] at h; omega))
                    have hrowm : (encTk cc b)[(((i : Nat) : Int) - 1).toNat]? = some [.v (.int .i64 (kindT cc (posT cc (i - 1)))), .v (.int .i64 (iAt b ((posT cc (i - 1) : Nat) : Int))), .v (.int .i64 (iAt b ((posT cc ((i - 1) + 1) : Nat) : Int)))] := (by rw [show (((i : Nat) : Int) - 1).toNat = (i - 1) by omega]; exact encTk_get cc b ((i - 1)) (by omega))
                    obtain ⟨nb1, nb2⟩ := nb_kind (c := cc) (m := i - 1) (by omega)
                    rw [show i - 1 + 1 = i by omega] at nb1 nb2
                    refine TD.runG rfl rfl (pure_move rfl) rfl ?_; refine TD.runG rfl rfl (pure_move rfl) rfl ?_; refine TD.runG rfl rfl (pure_indexAddr Ty.sl23 rfl rfl (by omega) hrow (List.cons_ne_nil _ _)) rfl ?_
                    first | refine TD.runG rfl rfl (pure_fieldAddr Ty.f32_0 rfl (.zero _) (List.cons_ne_nil _ _)) rfl ?_ | refine TD.runG rfl rfl (pure_fieldAddr_own Ty.f32_0 rfl) rfl ?_
                    first | refine TD.runG rfl rfl (pure_load1 Ty.one3 rfl) rfl ?_ | refine TD.runG rfl rfl (pure_load1_own Ty.one3 rfl (by repeat (first | exact List.Mem.head _ | apply List.Mem.tail)) (by repeat (first | exact DropR.zero _ | apply DropR.succ))) rfl ?_
                    refine TD.runG rfl rfl (pure_leq rfl rfl) rfl ?_; refine TD.runG rfl rfl (pure_pick_true rfl rfl) rfl ?_; refine TD.runG rfl rfl (pure_move rfl) rfl ?_
                    first | refine TD.splitP 140 rfl (fun hg140 => ?_) (fun hg140 => ?_) | refine TD.split 140 rfl (fun hg140 => ?_) (fun hg140 => ?_)
                    · try dsimp only at hg140
                      refine TD.runG rfl rfl (pure_move rfl) rfl ?_; refine TD.runG rfl rfl (pure_move rfl) rfl ?_; refine TD.runG rfl rfl (pure_sub rfl rfl (mkI64 (by omega) (by omega))) rfl ?_; refine TD.runG rfl rfl (pure_indexAddr Ty.sl23 rfl rfl (by omega) hrowm (List.cons_ne_nil _ _)) rfl ?_
                      first | refine TD.runG rfl rfl (pure_fieldAddr Ty.f32_0 rfl (.zero _) (List.cons_ne_nil _ _)) rfl ?_ | refine TD.runG rfl rfl (pure_fieldAddr_own Ty.f32_0 rfl) rfl ?_
                      first | refine TD.runG rfl rfl (pure_load1 Ty.one3 rfl) rfl ?_ | refine TD.runG rfl rfl (pure_load1_own Ty.one3 rfl (by repeat (first | exact List.Mem.head _ | apply List.Mem.tail)) (by repeat (first | exact DropR.zero _ | apply DropR.succ))) rfl ?_
                      refine TD.runG rfl rfl (pure_leq rfl rfl) rfl ?_; refine TD.runG rfl rfl (pure_pick_true rfl rfl) rfl ?_; refine TD.run1 (pure_pick_false rfl rfl) rfl ?_; refine TD.cutEnd (by repeat (first | exact Same.refl _ _ | refine Same.put rfl ?_)) rfl ?_
                      first | (simp only [decide_eq_true_eq, iff_false]; exact fun h => nb2 ⟨hg140, h⟩) | simp
                    · try dsimp only at hg140
                      refine TD.passG rfl rfl rfl rfl ?_; refine TD.passG rfl rfl rfl rfl ?_; refine TD.passG rfl rfl rfl rfl ?_; refine TD.passG rfl rfl rfl rfl ?_; refine TD.passG rfl rfl rfl rfl ?_; refine TD.passG rfl rfl rfl rfl ?_; refine TD.passG rfl rfl rfl rfl ?_; refine TD.runG rfl rfl (pure_pick_false rfl rfl) rfl ?_; refine TD.run1 (pure_pick_false rfl rfl) rfl ?_; refine TD.cutEnd (by repeat (first | exact Same.refl _ _ | refine Same.put rfl ?_)) rfl ?_
                      first | (simp only [decide_eq_true_eq, iff_false]; exact fun h => nb2 ⟨hg140, h⟩) | simp
                  · try dsimp only at hg132
                    refine TD.passG rfl rfl rfl rfl ?_; refine TD.passG rfl rfl rfl rfl ?_; refine TD.passG rfl rfl rfl rfl ?_; refine TD.passG rfl rfl rfl rfl ?_; refine TD.passG rfl rfl rfl rfl ?_; refine TD.passG rfl rfl rfl rfl ?_; refine TD.runG rfl rfl (pure_pick_false rfl rfl) rfl ?_; refine TD.runG rfl rfl (pure_move rfl) rfl ?_; refine TD.passG rfl rfl rfl rfl ?_; refine TD.passG rfl rfl rfl rfl ?_; refine TD.passG rfl rfl rfl rfl ?_; refine TD.passG rfl rfl rfl rfl ?_; refine TD.passG rfl rfl rfl rfl ?_; refine TD.passG rfl rfl rfl rfl ?_; refine TD.passG rfl rfl rfl rfl ?_; refine TD.runG rfl rfl (pure_pick_false rfl rfl) rfl ?_; refine TD.run1 (pure_pick_false rfl rfl) rfl ?_; refine TD.cutEnd (by repeat (first | exact Same.refl _ _ | refine Same.put rfl ?_)) rfl ?_
                    first | (simp only [decide_eq_true_eq, iff_false]; exact fun h => nb2 ⟨hg140, h⟩) | simp
          first | refine TC.condD rfl (fun hc149 => ?_) (fun hc149 => ?_) | refine TC.condN rfl (fun hc149 => ?_) (fun hc149 => ?_) | refine TC.cond rfl (fun hc149 => ?_) (fun hc149 => ?_)
          · try dsimp only at hc149
            all_goals exact hc149.elim
          · try dsimp only at hc149
            refine TC.skip ?_; refine block_normal ?_; refine then_normal ?_; refine TC.region ?_; refine TL.run1 (pure_move rfl) rfl ?_; refine TL.run1 (pure_add rfl rfl (mkI64 (by omega) (by omega))) rfl ?_; refine TL.run1 (pure_assign rfl) rfl ?_; refine TL.nil ?_
            refine loop_next (i + 1) ⟨by ((try dsimp only); rw [show (((i + 1 : Nat)) : Int) = (i : Int) + 1 by omega]; repeat (first | exact Agree.nil | refine Agree.cons rfl ?_)), by repeat (first | exact List.nil_sublist _ | exact List.Sublist.refl _ | apply List.Sublist.cons_cons | apply List.Sublist.cons)⟩ (show i + 1 ≤ _ by omega) (by omega)
    · try dsimp only at hc42
      refine TC.exit ?_; refine then_exit ?_; refine loop_exit ?_; refine block_here ?_; refine then_normal ?_; refine TC.seq ?_
      have hin : i = nT cc := by omega
      have hnow : iAt b ((posT cc i : Nat) : Int) = ((encI (pts c)).length : Int) := by rw [hin, nT_end, hbe2, hkp, hpl]
      rw [hnow]
      refine TC.region ?_; refine TL.run1 (pure_move rfl) rfl ?_; refine TL.run1 (pure_move rfl) rfl ?_
      first | refine TL.run1 (pure_len Ty.sl35 rfl) rfl ?_ | refine TL.run1 (pure_len_row Ty.sl35 rfl (by repeat (first | exact List.Mem.head _ | apply List.Mem.tail))) rfl ?_ | refine TL.run1 (pure_len_nil Ty.sl35 rfl) rfl ?_
      refine TL.run1 (pure_eql rfl rfl) rfl ?_; refine TL.run1 (pure_assign rfl) rfl ?_; refine TL.nil' ?_; refine TC.ret ?_
      exact ret_bool rfl (by simp)
end Go.Ob
