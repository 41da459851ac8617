import Derived.Test.YtkmgogabbefonaaDoorE5
set_option linter.unusedVariables false
set_option linter.unusedSimpArgs false
namespace Go.Ob
open Go.Proofs

def wideL : List ByteArray := [⟨#[65, 86]⟩, ⟨#[86, 65]⟩, ⟨#[65, 87]⟩, ⟨#[87, 65]⟩, ⟨#[65, 84]⟩, ⟨#[84, 65]⟩, ⟨#[65, 89]⟩, ⟨#[89, 65]⟩]
def smallL : List ByteArray := [⟨#[84, 111]⟩, ⟨#[84, 97]⟩, ⟨#[84, 101]⟩, ⟨#[84, 114]⟩, ⟨#[86, 111]⟩, ⟨#[86, 97]⟩, ⟨#[86, 101]⟩, ⟨#[89, 111]⟩, ⟨#[89, 97]⟩, ⟨#[89, 101]⟩, ⟨#[76, 84]⟩, ⟨#[76, 86]⟩, ⟨#[76, 89]⟩, ⟨#[80, 44]⟩, ⟨#[80, 46]⟩, ⟨#[70, 44]⟩, ⟨#[70, 46]⟩]
theorem kK_wide {t : ByteArray} (h : t ∈ wideL) : kK t = 80 := by
  unfold kK; rw [if_pos (by simpa [wideL] using h)]
theorem kK_small {t : ByteArray} (h1 : ¬ t ∈ wideL) (h : t ∈ smallL) : kK t = 60 := by
  unfold kK; rw [if_neg (by simpa [wideL] using h1), if_pos (by simpa [smallL] using h)]
theorem kK_none {t : ByteArray} (h1 : ¬ t ∈ wideL) (h : ¬ t ∈ smallL) : kK t = 0 := by
  unfold kK; rw [if_neg (by simpa [wideL] using h1), if_neg (by simpa [smallL] using h)]
theorem pairs_two : ∀ t ∈ wideL ++ smallL, t.size = 2 ∧ (cluV t).length = 2 := by decide +kernel
theorem kK_two {t : ByteArray} (h : kK t ≠ 0) : t.size = 2 ∧ (cluV t).length = 2 := by
  by_cases h1 : t ∈ wideL
  · exact pairs_two t (List.mem_append.2 (.inl h1))
  · by_cases h2 : t ∈ smallL
    · exact pairs_two t (List.mem_append.2 (.inr h2))
    · exact absurd (kK_none h1 h2) h
def krL (f : Fo) (a b : ByteArray) : Int := if a.size = 1 then krP f a b else 0
theorem size_app (s t : ByteArray) : (s ++ t).size = s.size + t.size := by simp
theorem clu_pos {c : ByteArray} (h : (cluV c).length = 1) : 0 < c.size := by
  rcases Nat.eq_zero_or_pos c.size with h0 | h0
  · have : c = ⟨#[]⟩ := by
      apply ByteArray.ext; exact Array.eq_empty_of_size_eq_zero h0
    rw [this] at h
    exact absurd h (by decide +kernel)
  · exact h0
theorem krL_eq {f : Fo} {a b : ByteArray} (ha : (cluV a).length = 1) (hb : (cluV b).length = 1) : krL f a b = krP f a b := by
  unfold krL
  split
  · rfl
  · rename_i h
    have h1 := clu_pos ha
    have h2 := clu_pos hb
    unfold krP
    by_cases hk : kK (a ++ b) = 0
    · rw [if_pos (.inl hk)]
    · have := (kK_two hk).1
      rw [size_app] at this; omega
theorem krP_first {f : Fo} {c : ByteArray} (hc : (cluV c).length = 1) : krP f ⟨#[]⟩ c = 0 := by
  unfold krP
  have e : (⟨#[]⟩ : ByteArray) ++ c = c := by apply ByteArray.ext; simp
  rw [e]
  by_cases hk : kK c = 0
  · rw [if_pos (.inl hk)]
  · have := (kK_two hk).2; omega
theorem krL_other {f : Fo} {a b : ByteArray} (h : a.size ≠ 1 ∨ (¬ (a ++ b) ∈ wideL ∧ ¬ (a ++ b) ∈ smallL)) : krL f a b = 0 := by
  unfold krL
  split
  · rename_i h1
    rcases h with h | h
    · exact absurd h1 h
    · unfold krP; rw [kK_none h.1 h.2, if_pos (.inl rfl)]
  · rfl
theorem krL_odd {f : Fo} {a b : ByteArray} (h : f.face % 2 = 1) : krL f a b = 0 := by
  unfold krL krP
  rw [if_pos (.inr (by omega) : kK (a ++ b) = 0 ∨ ¬ f.face % 2 = 0)]
  split <;> rfl
theorem krL_even {f : Fo} {a b : ByteArray} (h : ¬ f.face % 2 = 1) (h1 : a.size = 1) {n : Int} (hk : kK (a ++ b) = n) (hn : n ≠ 0) : krL f a b = -(scP f n) := by
  unfold krL krP
  rw [if_pos h1, hk, if_neg (by rintro (h | h); exact hn h; exact h (by omega))]
theorem tAt_wide {l : List ByteArray} {t : ByteArray} (h : t ∈ l) : ∃ j : Nat, j < l.length ∧ tAt l j = t := by
  obtain ⟨j, hj, rfl⟩ := List.getElem_of_mem h
  refine ⟨j, hj, ?_⟩
  unfold tAt
  rw [Int.toNat_natCast, List.getD_eq_getElem?_getD, List.getElem?_eq_getElem hj]; rfl
def cutT (s : ByteArray) : ByteArray := s.extract 0 (min s.size 200)
theorem cutT_size (s : ByteArray) : (cutT s).size ≤ 200 := by unfold cutT; rw [ByteArray.size_extract]; omega
theorem KT_eq : txtV ⟨0, 20, 0, false⟩ ⟨#[65, 86]⟩ = 248 ∧ chkV ⟨0, 20, 0, false⟩ [⟨#[65, 86]⟩] = 0 := by decide +kernel
theorem KW_eq : wdV ⟨0, 20, 0, false⟩ ⟨#[109]⟩ = 156 ∧ wdE ⟨0, 20, 0, false⟩ ⟨#[109]⟩ = 0 := by decide +kernel

theorem KT_spec : Fun Tryd.prog 19 [.agg [.v (.int .i64 0), .v (.int .i64 20), .v (.int .i64 0), .v (.bool false)], .v (.string ⟨#[65, 86]⟩)] (.tup [.v (.int .i64 248), .v (.int .i64 0)]) := by
  have h := Text_spec ⟨0, 20, 0, false⟩ ⟨#[65, 86]⟩ (by decide)
  rwa [KT_eq.1, KT_eq.2] at h
theorem KW_spec : Fun Tryd.prog 14 [.agg [.v (.int .i64 0), .v (.int .i64 20), .v (.int .i64 0), .v (.bool false)], .v (.string ⟨#[109]⟩)] (.tup [.v (.int .i64 156), .v (.int .i64 0)]) := by
  have h := Width_spec ⟨0, 20, 0, false⟩ ⟨#[109]⟩ (by decide)
  rwa [KW_eq.1, KW_eq.2] at h
set_option maxRecDepth 100000 in
theorem cut_spec (s : ByteArray) : Fun Tryd.prog 12 [.v (.string s)] (.v (.string (cutT s))) := by
  refine Fun.enter (n := 8) (rs := [.tmp 2]) Tryd.func12 rfl Tryd.ntmps12 Tryd.results12 rfl (fun w F => ?_)
  refine TC.seq ?_
  refine TC.region ?_
  refine TL.run1 (pure_assign rfl) rfl ?_
  refine TL.nil' ?_
  refine TC.seq ?_
  refine TC.region ?_
  refine TL.run1 (pure_move rfl) rfl ?_
  refine TL.run1 (pure_move rfl) rfl ?_
  refine TL.run1 (pure_len_str Tryd.underlying9 rfl) rfl ?_
  refine TL.run1 (pure_min rfl rfl) rfl ?_
  refine TL.run1 (pure_slice_str (l := 0) (h := min s.size 200) Tryd.underlying9 rfl rfl (by rw [show ((min s.size 200 : Nat) : Int) = min (s.size : Int) 200 by omega]; rfl) (by omega) (by omega)) rfl ?_
  refine TL.run1 (pure_assign rfl) rfl ?_
  refine TL.nil' ?_
  refine TC.ret ?_
  exact ret_str rfl rfl
set_option maxRecDepth 100000 in
theorem known_spec  : Fun Tryd.prog 13 [] (.v (.bool true)) := by
  refine Fun.enter (n := 31) (rs := [.tmp 0]) Tryd.func13 rfl Tryd.ntmps13 Tryd.results13 rfl (fun w F => ?_)
  refine TC.seq ?_
  refine TC.region ?_
  refine TL.run1 (pure_assign rfl) rfl ?_
  refine TL.nil' ?_
  refine TC.seq ?_
  refine TC.region ?_
  refine TL.run1 (pure_build Ty.pl23 Ty.zero23 (.cons rfl rfl (.one rfl) rfl (.skip (.here (.nil _))) (.nil _))) rfl ?_
  refine TL.alloc Ty.zero23 rfl (fun g1 => ?_)
  refine TL.store rfl rfl (.agg _) Tryd.sizeOf23 rfl (by repeat (first | exact UpdR.here _ | apply UpdR.there)) (by repeat (first | exact PutR.nil _ | apply PutR.here | apply PutR.skip)) ?_
  refine TL.nil' ?_
  refine TC.seq ?_
  refine TC.region ?_
  first | refine TL.run1 (pure_load Ty.agg23 rfl (.succ (.succ (.succ (.succ (.zero _)))))) rfl ?_ | refine TL.run1 (pure_load_own Ty.agg23 rfl (by repeat (first | exact List.Mem.head _ | apply List.Mem.tail)) (by repeat (first | exact DropR.zero _ | apply DropR.succ)) (.succ (.succ (.succ (.succ (.zero _)))))) rfl ?_
  refine TL.run1 (pure_call (KT_spec) (.cons rfl (.cons rfl .nil)) Tryd.call19) rfl ?_
  refine TL.run1 (pure_move rfl) rfl ?_
  refine TL.run1 (pure_extract rfl rfl) rfl ?_
  refine TL.run1 (pure_extract rfl rfl) rfl ?_
  refine TL.run1 (pure_assign rfl) rfl ?_
  refine TL.run1 (pure_assign rfl) rfl ?_
  refine TL.nil' ?_
  refine TC.seq ?_
  refine TC.region ?_
  first | refine TL.run1 (pure_load Ty.agg23 rfl (.succ (.succ (.succ (.succ (.zero _)))))) rfl ?_ | refine TL.run1 (pure_load_own Ty.agg23 rfl (by repeat (first | exact List.Mem.head _ | apply List.Mem.tail)) (by repeat (first | exact DropR.zero _ | apply DropR.succ)) (.succ (.succ (.succ (.succ (.zero _)))))) rfl ?_
  refine TL.run1 (pure_call (KW_spec) (.cons rfl (.cons rfl .nil)) Tryd.call14) rfl ?_
  refine TL.run1 (pure_move rfl) rfl ?_
  refine TL.run1 (pure_extract rfl rfl) rfl ?_
  refine TL.run1 (pure_extract rfl rfl) rfl ?_
  refine TL.run1 (pure_assign rfl) rfl ?_
  refine TL.run1 (pure_assign rfl) rfl ?_
  refine TL.nil' ?_
  refine TC.regionCut [17, 18, 19, 20, 21, 22, 23, 24, 25, 26, 27, 28, 29, 30, 0] 0 (True) ?_ ?_
  · skip
    refine TL.run1 (pure_move rfl) rfl ?_
    refine TL.run1 (pure_eql rfl rfl) rfl ?_
    refine TL.run1 (pure_move rfl) rfl ?_
    first | refine TL.splitP 19 rfl (fun hg19 => ?_) (fun hg19 => ?_) | refine TL.split 19 rfl (fun hg19 => ?_) (fun hg19 => ?_)
    · try dsimp only at hg19
      refine TL.runG rfl rfl (pure_move rfl) rfl ?_
      refine TL.runG rfl rfl (pure_eql rfl rfl) rfl ?_
      refine TL.run1 (pure_pick_true rfl rfl) rfl ?_
      refine TL.run1 (pure_move rfl) rfl ?_
      first | refine TL.splitP 23 rfl (fun hg23 => ?_) (fun hg23 => ?_) | refine TL.split 23 rfl (fun hg23 => ?_) (fun hg23 => ?_)
      · try dsimp only at hg23
        refine TL.runG rfl rfl (pure_move rfl) rfl ?_
        refine TL.runG rfl rfl (pure_eql rfl rfl) rfl ?_
        refine TL.run1 (pure_pick_true rfl rfl) rfl ?_
        refine TL.run1 (pure_move rfl) rfl ?_
        first | refine TL.splitP 27 rfl (fun hg27 => ?_) (fun hg27 => ?_) | refine TL.split 27 rfl (fun hg27 => ?_) (fun hg27 => ?_)
        · try dsimp only at hg27
          refine TL.runG rfl rfl (pure_move rfl) rfl ?_
          refine TL.runG rfl rfl (pure_eql rfl rfl) rfl ?_
          refine TL.run1 (pure_pick_true rfl rfl) rfl ?_
          refine TL.run1 (pure_assign rfl) rfl ?_
          refine TL.cutEnd (by repeat (first | exact Same.refl _ _ | refine Same.put rfl ?_)) rfl ?_
          first | rfl | (simp_all [encI, encT]; done) | (simp_all; omega) | grind
        · try dsimp only at hg27
          refine TL.passG rfl rfl rfl rfl ?_
          refine TL.passG rfl rfl rfl rfl ?_
          refine TL.run1 (pure_pick_false rfl rfl) rfl ?_
          refine TL.run1 (pure_assign rfl) rfl ?_
          refine TL.cutEnd (by repeat (first | exact Same.refl _ _ | refine Same.put rfl ?_)) rfl ?_
          first | rfl | (simp_all [encI, encT]; done) | (simp_all; omega) | grind
      · try dsimp only at hg23
        refine TL.passG rfl rfl rfl rfl ?_
        refine TL.passG rfl rfl rfl rfl ?_
        refine TL.run1 (pure_pick_false rfl rfl) rfl ?_
        refine TL.run1 (pure_move rfl) rfl ?_
        refine TL.passG rfl rfl rfl rfl ?_
        refine TL.passG rfl rfl rfl rfl ?_
        refine TL.run1 (pure_pick_false rfl rfl) rfl ?_
        refine TL.run1 (pure_assign rfl) rfl ?_
        refine TL.cutEnd (by repeat (first | exact Same.refl _ _ | refine Same.put rfl ?_)) rfl ?_
        first | rfl | (simp_all [encI, encT]; done) | (simp_all; omega) | grind
    · try dsimp only at hg19
      refine TL.passG rfl rfl rfl rfl ?_
      refine TL.passG rfl rfl rfl rfl ?_
      refine TL.run1 (pure_pick_false rfl rfl) rfl ?_
      refine TL.run1 (pure_move rfl) rfl ?_
      refine TL.passG rfl rfl rfl rfl ?_
      refine TL.passG rfl rfl rfl rfl ?_
      refine TL.run1 (pure_pick_false rfl rfl) rfl ?_
      refine TL.run1 (pure_move rfl) rfl ?_
      refine TL.passG rfl rfl rfl rfl ?_
      refine TL.passG rfl rfl rfl rfl ?_
      refine TL.run1 (pure_pick_false rfl rfl) rfl ?_
      refine TL.run1 (pure_assign rfl) rfl ?_
      refine TL.cutEnd (by repeat (first | exact Same.refl _ _ | refine Same.put rfl ?_)) rfl ?_
      first | rfl | (simp_all [encI, encT]; done) | (simp_all; omega) | grind
  refine TC.ret ?_
  exact ret_bool rfl (by simp)
set_option maxRecDepth 100000 in
theorem first_spec (s : ByteArray) : Fun Tryd.prog 39 [.v (.string s)] (.v (.int .i64 (p1 s))) := by
  refine Fun.enter (n := 12) (rs := [.tmp 2]) Tryd.func39 rfl Tryd.ntmps39 Tryd.results39 rfl (fun w F => ?_)
  refine TC.seq ?_
  refine TC.region ?_
  refine TL.run1 (pure_assign rfl) rfl ?_
  refine TL.nil' ?_
  refine TC.seq ?_
  refine TC.seq ?_
  refine TC.region ?_
  refine TL.run1 (pure_move rfl) rfl ?_
  refine TL.rangeStr Tryd.underlying9 rfl rfl (fun g6 => ?_)
  refine TL.nil' ?_
  refine TC.block ?_
  refine TC.loopX (X := Nat) (fun u => [(0, .v (.string s)), (6, .v (.pointer (some ⟨g6, 0, none⟩)))]) (fun u => [Blk.obj g6 (.stringIter s 0)]) (fun u => (u = 0)) (fun u => u) (0) ⟨by skip; repeat (first | exact Agree.nil | refine Agree.cons rfl ?_), by skip; repeat (first | exact List.nil_sublist _ | exact List.Sublist.refl _ | apply List.Sublist.cons_cons | apply List.Sublist.cons)⟩ ?_ ?_
  · skip
    exact rfl
  intro u
  intro hu
  show TC _ _ _ (Env.of [(0, .v (.string s)), (6, .v (.pointer (some ⟨g6, 0, none⟩)))]) [Blk.obj g6 (.stringIter s 0)]
  refine TC.seq ?_
  refine TC.region ?_
  refine TL.nextStr rfl (by repeat (first | exact UpdR.here _ | apply UpdR.there)) rfl (fun hn7 => ?_) (fun hn7 => ?_)
  · skip
    refine TL.run1 (pure_extract rfl rfl) rfl ?_
    refine TL.nil' ?_
    refine TC.seq ?_
    refine TC.cond rfl (fun _ => ?_) (fun h => absurd h (by decide))
    refine TC.skip' ?_
    refine TC.block ?_
    refine TC.seq ?_
    have hdr := dc_rune s 0
    refine TC.region ?_
    refine TL.run1 (pure_extract rfl rfl) rfl ?_
    refine TL.run1 (pure_assign rfl) rfl ?_
    refine TL.nil' ?_
    refine TC.seq ?_
    refine TC.region ?_
    refine TL.run1 (pure_move rfl) rfl ?_
    refine TL.run1 (pure_conv Tryd.underlying21 Tryd.underlying3 rfl (fit_i64 (by omega) (by omega))) rfl ?_
    refine TL.run1 (pure_assign rfl) rfl ?_
    refine TL.nil' ?_
    refine TC.ret ?_
    refine block_ret ?_
    refine loop_ret ?_
    refine block_ret ?_
    refine then_ret ?_
    exact ret_int rfl (by unfold p1; rw [if_neg (by omega)])
  · skip
    refine TL.run1 (pure_extract rfl rfl) rfl ?_
    refine TL.nil' ?_
    refine TC.seq ?_
    refine TC.cond rfl (fun h => absurd h (by decide)) (fun _ => ?_)
    refine TC.exit ?_
    refine then_exit ?_
    refine loop_exit ?_
    refine block_here ?_
    refine then_normal ?_
    refine TC.seq ?_
    refine TC.region ?_
    refine TL.run1 (pure_assign rfl) rfl ?_
    refine TL.nil' ?_
    refine TC.ret ?_
    exact ret_int rfl (by unfold p1; rw [if_pos (by omega)])

theorem hasB_true {s : ByteArray} {p : Int} {i : Nat} (h : i < s.size) (hb : (byt s i : Int) = p) : hasB s p = true := by
  unfold hasB
  rw [List.any_eq_true]
  have h' : i < s.data.toList.length := by rw [← Lib.size_eq]; exact h
  refine ⟨s.data.toList[i], List.getElem_mem h', decide_eq_true ?_⟩
  rw [← hb]
  unfold byt
  rw [List.getD_eq_getElem?_getD, List.getElem?_eq_getElem h']; rfl
theorem hasB_false {s : ByteArray} {p : Int} (h : ∀ j, j < s.size → (byt s j : Int) ≠ p) : hasB s p = false := by
  unfold hasB
  rw [List.any_eq_false]
  intro b hb e
  obtain ⟨j, hj, rfl⟩ := List.getElem_of_mem hb
  refine h j (by rw [Lib.size_eq]; exact hj) ?_
  have := of_decide_eq_true e
  unfold byt
  rw [List.getD_eq_getElem?_getD, List.getElem?_eq_getElem hj]; exact this
set_option maxRecDepth 100000 in
theorem has_spec (s : ByteArray) (p : Int) (hs : s.size ≤ 1000) : Fun Tryd.prog 57 [.v (.string s), .v (.int .i64 p)] (.v (.bool (hasB s p))) := by
  refine Fun.enter (n := 18) (rs := [.tmp 4]) Tryd.func57 rfl Tryd.ntmps57 Tryd.results57 rfl (fun w F => ?_)
  refine TC.seq ?_
  refine TC.region ?_
  refine TL.run1 (pure_assign rfl) rfl ?_
  refine TL.nil' ?_
  refine TC.seq ?_
  refine TC.seq ?_
  refine TC.region ?_
  refine TL.run1 (pure_assign rfl) rfl ?_
  refine TL.nil' ?_
  refine TC.block ?_
  refine TC.loopX (X := Nat) (fun i => [(0, .v (.string s)), (1, .v (.int .i64 p)), (5, .v (.int .i64 i))]) (fun i => []) (fun i => (i ≤ s.size) ∧ (∀ j, j < i → (byt s j : Int) ≠ p)) (fun i => s.size - i) (0) ⟨by skip; repeat (first | exact Agree.nil | refine Agree.cons rfl ?_), by skip; repeat (first | exact List.nil_sublist _ | exact List.Sublist.refl _ | apply List.Sublist.cons_cons | apply List.Sublist.cons)⟩ ?_ ?_
  · skip
    exact ⟨Nat.zero_le _, fun j h => by omega⟩
  intro i
  rintro ⟨h1, h2⟩
  show TC _ _ _ (Env.of [(0, .v (.string s)), (1, .v (.int .i64 p)), (5, .v (.int .i64 i))]) []
  refine TC.seq ?_
  refine TC.seq ?_
  refine TC.region ?_
  refine TL.run1 (pure_move rfl) rfl ?_
  refine TL.run1 (pure_move rfl) rfl ?_
  refine TL.run1 (pure_len_str Tryd.underlying9 rfl) rfl ?_
  refine TL.run1 (pure_lss rfl rfl) rfl ?_
  refine TL.nil' ?_
  first | refine TC.condD rfl (fun hc9 => ?_) (fun hc9 => ?_) | refine TC.condN rfl (fun hc9 => ?_) (fun hc9 => ?_) | refine TC.cond rfl (fun hc9 => ?_) (fun hc9 => ?_)
  · try dsimp only at hc9
    refine TC.skip' ?_
    refine TC.seq ?_
    refine TC.block ?_
    refine TC.seq ?_
    have hb := byt_lt s i
    refine TC.region ?_
    refine TL.run1 (pure_move rfl) rfl ?_
    refine TL.run1 (pure_move rfl) rfl ?_
    refine TL.run1 (pure_index_byt (j := i) Tryd.underlying9 rfl rfl rfl (by omega)) rfl ?_
    refine TL.run1 (pure_conv Tryd.underlying5 Tryd.underlying3 rfl (fit_i64 (by omega) (by omega))) rfl ?_
    refine TL.run1 (pure_move rfl) rfl ?_
    refine TL.run1 (pure_eql rfl rfl) rfl ?_
    refine TL.nil' ?_
    first | refine TC.condD rfl (fun hc17 => ?_) (fun hc17 => ?_) | refine TC.condN rfl (fun hc17 => ?_) (fun hc17 => ?_) | refine TC.cond rfl (fun hc17 => ?_) (fun hc17 => ?_)
    · try dsimp only at hc17
      refine TC.seq ?_
      refine TC.region ?_
      refine TL.run1 (pure_assign rfl) rfl ?_
      refine TL.nil' ?_
      refine TC.ret ?_
      refine block_ret ?_
      refine then_ret ?_
      refine loop_ret ?_
      refine block_ret ?_
      refine then_ret ?_
      exact ret_bool rfl (hasB_true (i := i) (by omega) hc17).symm
    · try dsimp only at hc17
      refine TC.skip ?_
      refine block_normal ?_
      refine then_normal ?_
      refine TC.region ?_
      refine TL.run1 (pure_move rfl) rfl ?_
      refine TL.run1 (pure_add rfl rfl (mkI64 (by omega) (by omega))) rfl ?_
      refine TL.run1 (pure_assign rfl) rfl ?_
      refine TL.nil ?_
      refine loop_next (i + 1) ⟨by ((try dsimp only); rw [show (((i + 1 : Nat)) : Int) = (i : Int) + 1 by omega]; repeat (first | exact Agree.nil | refine Agree.cons rfl ?_)), by repeat (first | exact List.nil_sublist _ | exact List.Sublist.refl _ | apply List.Sublist.cons_cons | apply List.Sublist.cons)⟩ ⟨by omega, fun j h => by rcases Nat.lt_or_eq_of_le (Nat.le_of_lt_succ h) with h | h; exact h2 j h; rw [h]; exact hc17⟩ (by omega)
  · try dsimp only at hc9
    refine TC.exit ?_
    refine then_exit ?_
    refine loop_exit ?_
    refine block_here ?_
    refine then_normal ?_
    refine TC.seq ?_
    refine TC.region ?_
    refine TL.run1 (pure_assign rfl) rfl ?_
    refine TL.nil' ?_
    refine TC.ret ?_
    exact ret_bool rfl (hasB_false fun j hj => h2 j (by omega)).symm
set_option maxHeartbeats 4000000 in
set_option maxRecDepth 100000 in
theorem lnominal_spec (f : Fo) (p : Int) (hf : ¬ FBad f) : Fun Tryd.prog 38 [.agg [.v (.int .i64 f.face), .v (.int .i64 f.size), .v (.int .i64 f.raise), .v (.bool f.bold)], .v (.int .i64 p)] (.v (.int .i64 (nomL f p))) := by
  refine Fun.enter (n := 121) (rs := [.tmp 4]) Tryd.func38 rfl Tryd.ntmps38 Tryd.results38 rfl (fun w F => ?_)
  unfold FBad at hf
  refine TC.seq ?_
  refine TC.region ?_
  refine TL.box rfl (.agg _) rfl (fun g2 => ?_)
  refine TL.run1 (pure_assign rfl) rfl ?_
  refine TL.nil' ?_
  refine TC.seq ?_
  refine TC.region ?_
  refine TL.run1 (pure_assign rfl) rfl ?_
  refine TL.nil' ?_
  refine TC.seq ?_
  refine TC.seq ?_
  refine TC.region ?_
  refine TL.run1 (pure_move rfl) rfl ?_
  refine TL.run1 (pure_call (Class_spec p) (.cons rfl .nil) Tryd.call56) rfl ?_
  refine TL.run1 (pure_assign rfl) rfl ?_
  refine TL.nil' ?_
  refine TC.block ?_
  refine TC.regionCut [10, 11, 12, 13, 14, 15, 16, 17, 18, 19, 20, 21, 22, 23, 24, 25, 26, 27, 9] 9 (classP p = 3 ∨ classP p = 1 ∨ classP p = 2 ∨ classP p = 4 ∨ classP p = 5) ?_ ?_
  · skip
    refine TL.run1 (pure_move rfl) rfl ?_
    refine TL.run1 (pure_eql rfl rfl) rfl ?_
    refine TL.run1 (pure_move rfl) rfl ?_
    first | refine TL.splitP 12 rfl (fun hg12 => ?_) (fun hg12 => ?_) | refine TL.split 12 rfl (fun hg12 => ?_) (fun hg12 => ?_)
    · try dsimp only at hg12
      refine TL.passG rfl rfl rfl rfl ?_
      refine TL.passG rfl rfl rfl rfl ?_
      refine TL.run1 (pure_pick_true rfl rfl) rfl ?_
      refine TL.run1 (pure_move rfl) rfl ?_
      refine TL.passG rfl rfl rfl rfl ?_
      refine TL.passG rfl rfl rfl rfl ?_
      refine TL.run1 (pure_pick_true rfl rfl) rfl ?_
      refine TL.run1 (pure_move rfl) rfl ?_
      refine TL.passG rfl rfl rfl rfl ?_
      refine TL.passG rfl rfl rfl rfl ?_
      refine TL.run1 (pure_pick_true rfl rfl) rfl ?_
      refine TL.run1 (pure_move rfl) rfl ?_
      refine TL.passG rfl rfl rfl rfl ?_
      refine TL.passG rfl rfl rfl rfl ?_
      refine TL.run1 (pure_pick_true rfl rfl) rfl ?_
      refine TL.run1 (pure_assign rfl) rfl ?_
      refine TL.cutEnd (by repeat (first | exact Same.refl _ _ | refine Same.put rfl ?_)) rfl ?_
      first | (simp only [decide_eq_true_eq, Bool.false_eq_true, false_iff, true_iff, iff_true, iff_false, Bool.not_eq_true]; omega) | (simp_all; done) | (simp_all; omega) | grind
    · try dsimp only at hg12
      refine TL.runG rfl rfl (pure_move rfl) rfl ?_
      refine TL.runG rfl rfl (pure_eql rfl rfl) rfl ?_
      refine TL.run1 (pure_pick_false rfl rfl) rfl ?_
      refine TL.run1 (pure_move rfl) rfl ?_
      first | refine TL.splitP 16 rfl (fun hg16 => ?_) (fun hg16 => ?_) | refine TL.split 16 rfl (fun hg16 => ?_) (fun hg16 => ?_)
      · try dsimp only at hg16
        refine TL.passG rfl rfl rfl rfl ?_
        refine TL.passG rfl rfl rfl rfl ?_
        refine TL.run1 (pure_pick_true rfl rfl) rfl ?_
        refine TL.run1 (pure_move rfl) rfl ?_
        refine TL.passG rfl rfl rfl rfl ?_
        refine TL.passG rfl rfl rfl rfl ?_
        refine TL.run1 (pure_pick_true rfl rfl) rfl ?_
        refine TL.run1 (pure_move rfl) rfl ?_
        refine TL.passG rfl rfl rfl rfl ?_
        refine TL.passG rfl rfl rfl rfl ?_
        refine TL.run1 (pure_pick_true rfl rfl) rfl ?_
        refine TL.run1 (pure_assign rfl) rfl ?_
        refine TL.cutEnd (by repeat (first | exact Same.refl _ _ | refine Same.put rfl ?_)) rfl ?_
        first | (simp only [decide_eq_true_eq, Bool.false_eq_true, false_iff, true_iff, iff_true, iff_false, Bool.not_eq_true]; omega) | (simp_all; done) | (simp_all; omega) | grind
      · try dsimp only at hg16
        refine TL.runG rfl rfl (pure_move rfl) rfl ?_
        refine TL.runG rfl rfl (pure_eql rfl rfl) rfl ?_
        refine TL.run1 (pure_pick_false rfl rfl) rfl ?_
        refine TL.run1 (pure_move rfl) rfl ?_
        first | refine TL.splitP 20 rfl (fun hg20 => ?_) (fun hg20 => ?_) | refine TL.split 20 rfl (fun hg20 => ?_) (fun hg20 => ?_)
        · try dsimp only at hg20
          refine TL.passG rfl rfl rfl rfl ?_
          refine TL.passG rfl rfl rfl rfl ?_
          refine TL.run1 (pure_pick_true rfl rfl) rfl ?_
          refine TL.run1 (pure_move rfl) rfl ?_
          refine TL.passG rfl rfl rfl rfl ?_
          refine TL.passG rfl rfl rfl rfl ?_
          refine TL.run1 (pure_pick_true rfl rfl) rfl ?_
          refine TL.run1 (pure_assign rfl) rfl ?_
          refine TL.cutEnd (by repeat (first | exact Same.refl _ _ | refine Same.put rfl ?_)) rfl ?_
          first | (simp only [decide_eq_true_eq, Bool.false_eq_true, false_iff, true_iff, iff_true, iff_false, Bool.not_eq_true]; omega) | (simp_all; done) | (simp_all; omega) | grind
        · try dsimp only at hg20
          refine TL.runG rfl rfl (pure_move rfl) rfl ?_
          refine TL.runG rfl rfl (pure_eql rfl rfl) rfl ?_
          refine TL.run1 (pure_pick_false rfl rfl) rfl ?_
          refine TL.run1 (pure_move rfl) rfl ?_
          first | refine TL.splitP 24 rfl (fun hg24 => ?_) (fun hg24 => ?_) | refine TL.split 24 rfl (fun hg24 => ?_) (fun hg24 => ?_)
          · try dsimp only at hg24
            refine TL.passG rfl rfl rfl rfl ?_
            refine TL.passG rfl rfl rfl rfl ?_
            refine TL.run1 (pure_pick_true rfl rfl) rfl ?_
            refine TL.run1 (pure_assign rfl) rfl ?_
            refine TL.cutEnd (by repeat (first | exact Same.refl _ _ | refine Same.put rfl ?_)) rfl ?_
            first | (simp only [decide_eq_true_eq, Bool.false_eq_true, false_iff, true_iff, iff_true, iff_false, Bool.not_eq_true]; omega) | (simp_all; done) | (simp_all; omega) | grind
          · try dsimp only at hg24
            refine TL.runG rfl rfl (pure_move rfl) rfl ?_
            refine TL.runG rfl rfl (pure_eql rfl rfl) rfl ?_
            refine TL.run1 (pure_pick_false rfl rfl) rfl ?_
            refine TL.run1 (pure_assign rfl) rfl ?_
            refine TL.cutEnd (by repeat (first | exact Same.refl _ _ | refine Same.put rfl ?_)) rfl ?_
            first | (simp only [decide_eq_true_eq, Bool.false_eq_true, false_iff, true_iff, iff_true, iff_false, Bool.not_eq_true]; omega) | (simp_all; done) | (simp_all; omega) | grind
  first | refine TC.condD rfl (fun hc9 => ?_) (fun hc9 => ?_) | refine TC.condN rfl (fun hc9 => ?_) (fun hc9 => ?_) | refine TC.cond rfl (fun hc9 => ?_) (fun hc9 => ?_)
  · try dsimp only at hc9
    refine TC.seq ?_
    refine TC.region ?_
    refine TL.run1 (pure_assign rfl) rfl ?_
    refine TL.nil' ?_
    refine TC.ret ?_
    refine block_ret ?_
    refine then_ret ?_
    have hn : nomP f p = 0 := by (unfold nomP; rw [if_pos (show Zero (classP p) from hc9)])
    exact ret_int rfl (by unfold nomL; rw [hn, if_neg (fun h => h.2.2 rfl)])
  · try dsimp only at hc9
    refine TC.regionCut [29, 30, 31, 32, 33, 34, 35, 36, 37, 38, 39, 40, 41, 42, 43, 44, 45, 46, 47, 48, 49, 50, 51, 52, 53, 54, 55, 56, 57, 58, 28] 28 (classP p = 8 ∨ classP p = 9 ∨ classP p = 10 ∨ classP p = 11 ∨ classP p = 12 ∨ classP p = 13 ∨ classP p = 14 ∨ p ≥ 11904) ?_ ?_
    · skip
      refine TL.run1 (pure_move rfl) rfl ?_
      refine TL.run1 (pure_eql rfl rfl) rfl ?_
      refine TL.run1 (pure_move rfl) rfl ?_
      first | refine TL.splitP 31 rfl (fun hg31 => ?_) (fun hg31 => ?_) | refine TL.split 31 rfl (fun hg31 => ?_) (fun hg31 => ?_)
      · try dsimp only at hg31
        refine TL.passG rfl rfl rfl rfl ?_
        refine TL.passG rfl rfl rfl rfl ?_
        refine TL.run1 (pure_pick_true rfl rfl) rfl ?_
        refine TL.run1 (pure_move rfl) rfl ?_
        refine TL.passG rfl rfl rfl rfl ?_
        refine TL.passG rfl rfl rfl rfl ?_
        refine TL.run1 (pure_pick_true rfl rfl) rfl ?_
        refine TL.run1 (pure_move rfl) rfl ?_
        refine TL.passG rfl rfl rfl rfl ?_
        refine TL.passG rfl rfl rfl rfl ?_
        refine TL.run1 (pure_pick_true rfl rfl) rfl ?_
        refine TL.run1 (pure_move rfl) rfl ?_
        refine TL.passG rfl rfl rfl rfl ?_
        refine TL.passG rfl rfl rfl rfl ?_
        refine TL.run1 (pure_pick_true rfl rfl) rfl ?_
        refine TL.run1 (pure_move rfl) rfl ?_
        refine TL.passG rfl rfl rfl rfl ?_
        refine TL.passG rfl rfl rfl rfl ?_
        refine TL.run1 (pure_pick_true rfl rfl) rfl ?_
        refine TL.run1 (pure_move rfl) rfl ?_
        refine TL.passG rfl rfl rfl rfl ?_
        refine TL.passG rfl rfl rfl rfl ?_
        refine TL.run1 (pure_pick_true rfl rfl) rfl ?_
        refine TL.run1 (pure_move rfl) rfl ?_
        refine TL.passG rfl rfl rfl rfl ?_
        refine TL.passG rfl rfl rfl rfl ?_
        refine TL.run1 (pure_pick_true rfl rfl) rfl ?_
        refine TL.run1 (pure_assign rfl) rfl ?_
        refine TL.cutEnd (by repeat (first | exact Same.refl _ _ | refine Same.put rfl ?_)) rfl ?_
        first | (simp only [decide_eq_true_eq, Bool.false_eq_true, false_iff, true_iff, iff_true, iff_false, Bool.not_eq_true]; omega) | (simp_all; done) | (simp_all; omega) | grind
      · try dsimp only at hg31
        refine TL.runG rfl rfl (pure_move rfl) rfl ?_
        refine TL.runG rfl rfl (pure_eql rfl rfl) rfl ?_
        refine TL.run1 (pure_pick_false rfl rfl) rfl ?_
        refine TL.run1 (pure_move rfl) rfl ?_
        first | refine TL.splitP 35 rfl (fun hg35 => ?_) (fun hg35 => ?_) | refine TL.split 35 rfl (fun hg35 => ?_) (fun hg35 => ?_)
        · try dsimp only at hg35
          refine TL.passG rfl rfl rfl rfl ?_
          refine TL.passG rfl rfl rfl rfl ?_
          refine TL.run1 (pure_pick_true rfl rfl) rfl ?_
          refine TL.run1 (pure_move rfl) rfl ?_
          refine TL.passG rfl rfl rfl rfl ?_
          refine TL.passG rfl rfl rfl rfl ?_
          refine TL.run1 (pure_pick_true rfl rfl) rfl ?_
          refine TL.run1 (pure_move rfl) rfl ?_
          refine TL.passG rfl rfl rfl rfl ?_
          refine TL.passG rfl rfl rfl rfl ?_
          refine TL.run1 (pure_pick_true rfl rfl) rfl ?_
          refine TL.run1 (pure_move rfl) rfl ?_
          refine TL.passG rfl rfl rfl rfl ?_
          refine TL.passG rfl rfl rfl rfl ?_
          refine TL.run1 (pure_pick_true rfl rfl) rfl ?_
          refine TL.run1 (pure_move rfl) rfl ?_
          refine TL.passG rfl rfl rfl rfl ?_
          refine TL.passG rfl rfl rfl rfl ?_
          refine TL.run1 (pure_pick_true rfl rfl) rfl ?_
          refine TL.run1 (pure_move rfl) rfl ?_
          refine TL.passG rfl rfl rfl rfl ?_
          refine TL.passG rfl rfl rfl rfl ?_
          refine TL.run1 (pure_pick_true rfl rfl) rfl ?_
          refine TL.run1 (pure_assign rfl) rfl ?_
          refine TL.cutEnd (by repeat (first | exact Same.refl _ _ | refine Same.put rfl ?_)) rfl ?_
          first | (simp only [decide_eq_true_eq, Bool.false_eq_true, false_iff, true_iff, iff_true, iff_false, Bool.not_eq_true]; omega) | (simp_all; done) | (simp_all; omega) | grind
        · try dsimp only at hg35
          refine TL.runG rfl rfl (pure_move rfl) rfl ?_
          refine TL.runG rfl rfl (pure_eql rfl rfl) rfl ?_
          refine TL.run1 (pure_pick_false rfl rfl) rfl ?_
          refine TL.run1 (pure_move rfl) rfl ?_
          first | refine TL.splitP 39 rfl (fun hg39 => ?_) (fun hg39 => ?_) | refine TL.split 39 rfl (fun hg39 => ?_) (fun hg39 => ?_)
          · try dsimp only at hg39
            refine TL.passG rfl rfl rfl rfl ?_
            refine TL.passG rfl rfl rfl rfl ?_
            refine TL.run1 (pure_pick_true rfl rfl) rfl ?_
            refine TL.run1 (pure_move rfl) rfl ?_
            refine TL.passG rfl rfl rfl rfl ?_
            refine TL.passG rfl rfl rfl rfl ?_
            refine TL.run1 (pure_pick_true rfl rfl) rfl ?_
            refine TL.run1 (pure_move rfl) rfl ?_
            refine TL.passG rfl rfl rfl rfl ?_
            refine TL.passG rfl rfl rfl rfl ?_
            refine TL.run1 (pure_pick_true rfl rfl) rfl ?_
            refine TL.run1 (pure_move rfl) rfl ?_
            refine TL.passG rfl rfl rfl rfl ?_
            refine TL.passG rfl rfl rfl rfl ?_
            refine TL.run1 (pure_pick_true rfl rfl) rfl ?_
            refine TL.run1 (pure_move rfl) rfl ?_
            refine TL.passG rfl rfl rfl rfl ?_
            refine TL.passG rfl rfl rfl rfl ?_
            refine TL.run1 (pure_pick_true rfl rfl) rfl ?_
            refine TL.run1 (pure_assign rfl) rfl ?_
            refine TL.cutEnd (by repeat (first | exact Same.refl _ _ | refine Same.put rfl ?_)) rfl ?_
            first | (simp only [decide_eq_true_eq, Bool.false_eq_true, false_iff, true_iff, iff_true, iff_false, Bool.not_eq_true]; omega) | (simp_all; done) | (simp_all; omega) | grind
          · try dsimp only at hg39
            refine TL.runG rfl rfl (pure_move rfl) rfl ?_
            refine TL.runG rfl rfl (pure_eql rfl rfl) rfl ?_
            refine TL.run1 (pure_pick_false rfl rfl) rfl ?_
            refine TL.run1 (pure_move rfl) rfl ?_
            first | refine TL.splitP 43 rfl (fun hg43 => ?_) (fun hg43 => ?_) | refine TL.split 43 rfl (fun hg43 => ?_) (fun hg43 => ?_)
            · try dsimp only at hg43
              refine TL.passG rfl rfl rfl rfl ?_
              refine TL.passG rfl rfl rfl rfl ?_
              refine TL.run1 (pure_pick_true rfl rfl) rfl ?_
              refine TL.run1 (pure_move rfl) rfl ?_
              refine TL.passG rfl rfl rfl rfl ?_
              refine TL.passG rfl rfl rfl rfl ?_
              refine TL.run1 (pure_pick_true rfl rfl) rfl ?_
              refine TL.run1 (pure_move rfl) rfl ?_
              refine TL.passG rfl rfl rfl rfl ?_
              refine TL.passG rfl rfl rfl rfl ?_
              refine TL.run1 (pure_pick_true rfl rfl) rfl ?_
              refine TL.run1 (pure_move rfl) rfl ?_
              refine TL.passG rfl rfl rfl rfl ?_
              refine TL.passG rfl rfl rfl rfl ?_
              refine TL.run1 (pure_pick_true rfl rfl) rfl ?_
              refine TL.run1 (pure_assign rfl) rfl ?_
              refine TL.cutEnd (by repeat (first | exact Same.refl _ _ | refine Same.put rfl ?_)) rfl ?_
              first | (simp only [decide_eq_true_eq, Bool.false_eq_true, false_iff, true_iff, iff_true, iff_false, Bool.not_eq_true]; omega) | (simp_all; done) | (simp_all; omega) | grind
            · try dsimp only at hg43
              refine TL.runG rfl rfl (pure_move rfl) rfl ?_
              refine TL.runG rfl rfl (pure_eql rfl rfl) rfl ?_
              refine TL.run1 (pure_pick_false rfl rfl) rfl ?_
              refine TL.run1 (pure_move rfl) rfl ?_
              first | refine TL.splitP 47 rfl (fun hg47 => ?_) (fun hg47 => ?_) | refine TL.split 47 rfl (fun hg47 => ?_) (fun hg47 => ?_)
              · try dsimp only at hg47
                refine TL.passG rfl rfl rfl rfl ?_
                refine TL.passG rfl rfl rfl rfl ?_
                refine TL.run1 (pure_pick_true rfl rfl) rfl ?_
                refine TL.run1 (pure_move rfl) rfl ?_
                refine TL.passG rfl rfl rfl rfl ?_
                refine TL.passG rfl rfl rfl rfl ?_
                refine TL.run1 (pure_pick_true rfl rfl) rfl ?_
                refine TL.run1 (pure_move rfl) rfl ?_
                refine TL.passG rfl rfl rfl rfl ?_
                refine TL.passG rfl rfl rfl rfl ?_
                refine TL.run1 (pure_pick_true rfl rfl) rfl ?_
                refine TL.run1 (pure_assign rfl) rfl ?_
                refine TL.cutEnd (by repeat (first | exact Same.refl _ _ | refine Same.put rfl ?_)) rfl ?_
                first | (simp only [decide_eq_true_eq, Bool.false_eq_true, false_iff, true_iff, iff_true, iff_false, Bool.not_eq_true]; omega) | (simp_all; done) | (simp_all; omega) | grind
              · try dsimp only at hg47
                refine TL.runG rfl rfl (pure_move rfl) rfl ?_
                refine TL.runG rfl rfl (pure_eql rfl rfl) rfl ?_
                refine TL.run1 (pure_pick_false rfl rfl) rfl ?_
                refine TL.run1 (pure_move rfl) rfl ?_
                first | refine TL.splitP 51 rfl (fun hg51 => ?_) (fun hg51 => ?_) | refine TL.split 51 rfl (fun hg51 => ?_) (fun hg51 => ?_)
                · try dsimp only at hg51
                  refine TL.passG rfl rfl rfl rfl ?_
                  refine TL.passG rfl rfl rfl rfl ?_
                  refine TL.run1 (pure_pick_true rfl rfl) rfl ?_
                  refine TL.run1 (pure_move rfl) rfl ?_
                  refine TL.passG rfl rfl rfl rfl ?_
                  refine TL.passG rfl rfl rfl rfl ?_
                  refine TL.run1 (pure_pick_true rfl rfl) rfl ?_
                  refine TL.run1 (pure_assign rfl) rfl ?_
                  refine TL.cutEnd (by repeat (first | exact Same.refl _ _ | refine Same.put rfl ?_)) rfl ?_
                  first | (simp only [decide_eq_true_eq, Bool.false_eq_true, false_iff, true_iff, iff_true, iff_false, Bool.not_eq_true]; omega) | (simp_all; done) | (simp_all; omega) | grind
                · try dsimp only at hg51
                  refine TL.runG rfl rfl (pure_move rfl) rfl ?_
                  refine TL.runG rfl rfl (pure_eql rfl rfl) rfl ?_
                  refine TL.run1 (pure_pick_false rfl rfl) rfl ?_
                  refine TL.run1 (pure_move rfl) rfl ?_
                  first | refine TL.splitP 55 rfl (fun hg55 => ?_) (fun hg55 => ?_) | refine TL.split 55 rfl (fun hg55 => ?_) (fun hg55 => ?_)
                  · try dsimp only at hg55
                    refine TL.passG rfl rfl rfl rfl ?_
                    refine TL.passG rfl rfl rfl rfl ?_
                    refine TL.run1 (pure_pick_true rfl rfl) rfl ?_
                    refine TL.run1 (pure_assign rfl) rfl ?_
                    refine TL.cutEnd (by repeat (first | exact Same.refl _ _ | refine Same.put rfl ?_)) rfl ?_
                    first | (simp only [decide_eq_true_eq, Bool.false_eq_true, false_iff, true_iff, iff_true, iff_false, Bool.not_eq_true]; omega) | (simp_all; done) | (simp_all; omega) | grind
                  · try dsimp only at hg55
                    refine TL.runG rfl rfl (pure_move rfl) rfl ?_
                    refine TL.runG rfl rfl (pure_geq rfl rfl) rfl ?_
                    refine TL.run1 (pure_pick_false rfl rfl) rfl ?_
                    refine TL.run1 (pure_assign rfl) rfl ?_
                    refine TL.cutEnd (by repeat (first | exact Same.refl _ _ | refine Same.put rfl ?_)) rfl ?_
                    first | (simp only [decide_eq_true_eq, Bool.false_eq_true, false_iff, true_iff, iff_true, iff_false, Bool.not_eq_true]; omega) | (simp_all; done) | (simp_all; omega) | grind
    first | refine TC.condD rfl (fun hc28 => ?_) (fun hc28 => ?_) | refine TC.condN rfl (fun hc28 => ?_) (fun hc28 => ?_) | refine TC.cond rfl (fun hc28 => ?_) (fun hc28 => ?_)
    · try dsimp only at hc28
      have hww : WideC (classP p) ∨ p ≥ 11904 := by unfold WideC; omega
      refine TC.seq ?_
      refine TC.region ?_
      refine TL.run1 (pure_assign rfl) rfl ?_
      refine TL.nil' ?_
      refine TC.seq ?_
      refine TC.region ?_
      first | refine TL.run1 (pure_fieldAddr Ty.f23_0 rfl (.zero _) (List.cons_ne_nil _ _)) rfl ?_ | refine TL.run1 (pure_fieldAddr_own Ty.f23_0 rfl) rfl ?_
      first | refine TL.run1 (pure_load1 Ty.one3 rfl) rfl ?_ | refine TL.run1 (pure_load1_own Ty.one3 rfl (by repeat (first | exact List.Mem.head _ | apply List.Mem.tail)) (by repeat (first | exact DropR.zero _ | apply DropR.succ))) rfl ?_
      refine TL.run1 (pure_rem rfl rfl (by omega) (by omega)) rfl ?_
      refine TL.run1 (pure_eql rfl rfl) rfl ?_
      refine TL.nil' ?_
      first | refine TC.condD rfl (fun hc62 => ?_) (fun hc62 => ?_) | refine TC.condN rfl (fun hc62 => ?_) (fun hc62 => ?_) | refine TC.cond rfl (fun hc62 => ?_) (fun hc62 => ?_)
      · try dsimp only at hc62
        refine TC.seq ?_
        refine TC.region ?_
        refine TL.run1 (pure_assign rfl) rfl ?_
        refine TL.nil' ?_
        refine TC.ret ?_
        refine block_ret ?_
        refine then_ret ?_
        have hn : nomP f p = 1200 := by (unfold nomP; rw [if_neg (show ¬ Zero (classP p) from hc9), if_pos hww]; unfold wideP; rw [if_neg (by omega)])
        exact ret_int rfl (by unfold nomL; rw [hn, if_neg (fun h => by omega)])
      · try dsimp only at hc62
        refine TC.skip ?_
        refine block_normal ?_
        refine then_normal ?_
        refine TC.seq ?_
        refine TC.seq ?_
        refine TC.region ?_
        first | refine TL.run1 (pure_fieldAddr Ty.f23_3 rfl (.succ (.succ (.succ (.zero _)))) (List.cons_ne_nil _ _)) rfl ?_ | refine TL.run1 (pure_fieldAddr_own Ty.f23_3 rfl) rfl ?_
        first | refine TL.run1 (pure_load1 Ty.one4 rfl) rfl ?_ | refine TL.run1 (pure_load1_own Ty.one4 rfl (by repeat (first | exact List.Mem.head _ | apply List.Mem.tail)) (by repeat (first | exact DropR.zero _ | apply DropR.succ))) rfl ?_
        refine TL.nil' ?_
        first | refine TC.condD rfl (fun hc117 => ?_) (fun hc117 => ?_) | refine TC.condN rfl (fun hc117 => ?_) (fun hc117 => ?_) | refine TC.cond rfl (fun hc117 => ?_) (fun hc117 => ?_)
        · try dsimp only at hc117
          refine TC.region ?_
          refine TL.run1 (pure_move rfl) rfl ?_
          refine TL.run1 (pure_add rfl rfl (mkI64 (by omega) (by omega))) rfl ?_
          refine TL.run1 (pure_assign rfl) rfl ?_
          refine TL.nil' ?_
          refine TC.seq ?_
          refine TC.region ?_
          refine TL.run1 (pure_move rfl) rfl ?_
          refine TL.run1 (pure_assign rfl) rfl ?_
          refine TL.nil' ?_
          refine TC.ret ?_
          have hn : nomP f p = 1000 := by (unfold nomP; rw [if_neg (show ¬ Zero (classP p) from hc9), if_pos hww]; unfold wideP; rw [if_pos (by omega)])
          exact ret_int rfl (by unfold nomL; rw [hn, if_pos ⟨by omega, hc117, by decide⟩])
        · try dsimp only at hc117
          refine TC.skip' ?_
          refine TC.seq ?_
          refine TC.region ?_
          refine TL.run1 (pure_move rfl) rfl ?_
          refine TL.run1 (pure_assign rfl) rfl ?_
          refine TL.nil' ?_
          refine TC.ret ?_
          have hn : nomP f p = 1000 := by (unfold nomP; rw [if_neg (show ¬ Zero (classP p) from hc9), if_pos hww]; unfold wideP; rw [if_pos (by omega)])
          exact ret_int rfl (by unfold nomL; rw [hn, if_neg (fun h => by rw [hc117] at h; cases h.2.1)])
    · try dsimp only at hc28
      have hww : ¬ (WideC (classP p) ∨ p ≥ 11904) := by unfold WideC; omega
      refine TC.seq ?_
      refine TC.region ?_
      first | refine TL.run1 (pure_fieldAddr Ty.f23_0 rfl (.zero _) (List.cons_ne_nil _ _)) rfl ?_ | refine TL.run1 (pure_fieldAddr_own Ty.f23_0 rfl) rfl ?_
      first | refine TL.run1 (pure_load1 Ty.one3 rfl) rfl ?_ | refine TL.run1 (pure_load1_own Ty.one3 rfl (by repeat (first | exact List.Mem.head _ | apply List.Mem.tail)) (by repeat (first | exact DropR.zero _ | apply DropR.succ))) rfl ?_
      refine TL.run1 (pure_rem rfl rfl (by omega) (by omega)) rfl ?_
      refine TL.run1 (pure_eql rfl rfl) rfl ?_
      refine TL.run1 (pure_assign rfl) rfl ?_
      refine TL.nil' ?_
      first | refine TC.condD rfl (fun hc63 => ?_) (fun hc63 => ?_) | refine TC.condN rfl (fun hc63 => ?_) (fun hc63 => ?_) | refine TC.cond rfl (fun hc63 => ?_) (fun hc63 => ?_)
      · try dsimp only at hc63
        refine TC.seq ?_
        refine TC.region ?_
        refine TL.run1 (pure_assign rfl) rfl ?_
        refine TL.nil' ?_
        refine TC.ret ?_
        refine block_ret ?_
        refine then_ret ?_
        have hn : nomP f p = 600 := by (unfold nomP; rw [if_neg (show ¬ Zero (classP p) from hc9), if_neg hww, if_pos (by omega)])
        exact ret_int rfl (by unfold nomL; rw [hn, if_neg (fun h => by omega)])
      · try dsimp only at hc63
        refine TC.regionCut [69, 70, 71, 72, 73, 74, 68] 68 (p = 32 ∨ p = 160) ?_ ?_
        · skip
          refine TL.run1 (pure_move rfl) rfl ?_
          refine TL.run1 (pure_eql rfl rfl) rfl ?_
          refine TL.run1 (pure_move rfl) rfl ?_
          first | refine TL.splitP 71 rfl (fun hg71 => ?_) (fun hg71 => ?_) | refine TL.split 71 rfl (fun hg71 => ?_) (fun hg71 => ?_)
          · try dsimp only at hg71
            refine TL.passG rfl rfl rfl rfl ?_
            refine TL.passG rfl rfl rfl rfl ?_
            refine TL.run1 (pure_pick_true rfl rfl) rfl ?_
            refine TL.run1 (pure_assign rfl) rfl ?_
            refine TL.cutEnd (by repeat (first | exact Same.refl _ _ | refine Same.put rfl ?_)) rfl ?_
            first | (simp only [decide_eq_true_eq, Bool.false_eq_true, false_iff, true_iff, iff_true, iff_false, Bool.not_eq_true]; omega) | (simp_all; done) | (simp_all; omega) | grind
          · try dsimp only at hg71
            refine TL.runG rfl rfl (pure_move rfl) rfl ?_
            refine TL.runG rfl rfl (pure_eql rfl rfl) rfl ?_
            refine TL.run1 (pure_pick_false rfl rfl) rfl ?_
            refine TL.run1 (pure_assign rfl) rfl ?_
            refine TL.cutEnd (by repeat (first | exact Same.refl _ _ | refine Same.put rfl ?_)) rfl ?_
            first | (simp only [decide_eq_true_eq, Bool.false_eq_true, false_iff, true_iff, iff_true, iff_false, Bool.not_eq_true]; omega) | (simp_all; done) | (simp_all; omega) | grind
        first | refine TC.condD rfl (fun hc68 => ?_) (fun hc68 => ?_) | refine TC.condN rfl (fun hc68 => ?_) (fun hc68 => ?_) | refine TC.cond rfl (fun hc68 => ?_) (fun hc68 => ?_)
        · try dsimp only at hc68
          refine TC.region ?_
          refine TL.run1 (pure_assign rfl) rfl ?_
          refine TL.nil ?_
          refine block_normal ?_
          refine then_normal ?_
          refine TC.seq ?_
          refine TC.seq ?_
          refine TC.region ?_
          first | refine TL.run1 (pure_fieldAddr Ty.f23_3 rfl (.succ (.succ (.succ (.zero _)))) (List.cons_ne_nil _ _)) rfl ?_ | refine TL.run1 (pure_fieldAddr_own Ty.f23_3 rfl) rfl ?_
          first | refine TL.run1 (pure_load1 Ty.one4 rfl) rfl ?_ | refine TL.run1 (pure_load1_own Ty.one4 rfl (by repeat (first | exact List.Mem.head _ | apply List.Mem.tail)) (by repeat (first | exact DropR.zero _ | apply DropR.succ))) rfl ?_
          refine TL.nil' ?_
          first | refine TC.condD rfl (fun hc117 => ?_) (fun hc117 => ?_) | refine TC.condN rfl (fun hc117 => ?_) (fun hc117 => ?_) | refine TC.cond rfl (fun hc117 => ?_) (fun hc117 => ?_)
          · try dsimp only at hc117
            refine TC.region ?_
            refine TL.run1 (pure_move rfl) rfl ?_
            refine TL.run1 (pure_add rfl rfl (mkI64 (by omega) (by omega))) rfl ?_
            refine TL.run1 (pure_assign rfl) rfl ?_
            refine TL.nil' ?_
            refine TC.seq ?_
            refine TC.region ?_
            refine TL.run1 (pure_move rfl) rfl ?_
            refine TL.run1 (pure_assign rfl) rfl ?_
            refine TL.nil' ?_
            refine TC.ret ?_
            have hn : nomP f p = 250 := by (unfold nomP; rw [if_neg (show ¬ Zero (classP p) from hc9), if_neg hww, if_neg (fun h => h (by omega))]; unfold baseP; rw [if_pos hc68])
            exact ret_int rfl (by unfold nomL; rw [hn, if_pos ⟨by omega, hc117, by decide⟩])
          · try dsimp only at hc117
            refine TC.skip' ?_
            refine TC.seq ?_
            refine TC.region ?_
            refine TL.run1 (pure_move rfl) rfl ?_
            refine TL.run1 (pure_assign rfl) rfl ?_
            refine TL.nil' ?_
            refine TC.ret ?_
            have hn : nomP f p = 250 := by (unfold nomP; rw [if_neg (show ¬ Zero (classP p) from hc9), if_neg hww, if_neg (fun h => h (by omega))]; unfold baseP; rw [if_pos hc68])
            exact ret_int rfl (by unfold nomL; rw [hn, if_neg (fun h => by rw [hc117] at h; cases h.2.1)])
        · try dsimp only at hc68
          refine TC.seq ?_
          refine TC.region ?_
          refine TL.run1 (pure_move rfl) rfl ?_
          first | refine TL.run1 (pure_call (has_spec strA p (by decide)) (.cons rfl (.cons rfl .nil)) Tryd.call57) rfl ?_ | refine TL.run1 (pure_call (has_spec strB p (by decide)) (.cons rfl (.cons rfl .nil)) Tryd.call57) rfl ?_
          refine TL.run1 (pure_assign rfl) rfl ?_
          refine TL.nil' ?_
          first | refine TC.condD rfl (fun hc75 => ?_) (fun hc75 => ?_) | refine TC.condN rfl (fun hc75 => ?_) (fun hc75 => ?_) | refine TC.cond rfl (fun hc75 => ?_) (fun hc75 => ?_)
          · try dsimp only at hc75
            refine TC.region ?_
            refine TL.run1 (pure_assign rfl) rfl ?_
            refine TL.nil ?_
            refine block_normal ?_
            refine then_normal ?_
            refine TC.seq ?_
            refine TC.seq ?_
            refine TC.region ?_
            first | refine TL.run1 (pure_fieldAddr Ty.f23_3 rfl (.succ (.succ (.succ (.zero _)))) (List.cons_ne_nil _ _)) rfl ?_ | refine TL.run1 (pure_fieldAddr_own Ty.f23_3 rfl) rfl ?_
            first | refine TL.run1 (pure_load1 Ty.one4 rfl) rfl ?_ | refine TL.run1 (pure_load1_own Ty.one4 rfl (by repeat (first | exact List.Mem.head _ | apply List.Mem.tail)) (by repeat (first | exact DropR.zero _ | apply DropR.succ))) rfl ?_
            refine TL.nil' ?_
            first | refine TC.condD rfl (fun hc117 => ?_) (fun hc117 => ?_) | refine TC.condN rfl (fun hc117 => ?_) (fun hc117 => ?_) | refine TC.cond rfl (fun hc117 => ?_) (fun hc117 => ?_)
            · try dsimp only at hc117
              refine TC.region ?_
              refine TL.run1 (pure_move rfl) rfl ?_
              refine TL.run1 (pure_add rfl rfl (mkI64 (by omega) (by omega))) rfl ?_
              refine TL.run1 (pure_assign rfl) rfl ?_
              refine TL.nil' ?_
              refine TC.seq ?_
              refine TC.region ?_
              refine TL.run1 (pure_move rfl) rfl ?_
              refine TL.run1 (pure_assign rfl) rfl ?_
              refine TL.nil' ?_
              refine TC.ret ?_
              have hn : nomP f p = 280 := by (unfold nomP; rw [if_neg (show ¬ Zero (classP p) from hc9), if_neg hww, if_neg (fun h => h (by omega))]; unfold baseP; rw [if_neg hc68, if_pos hc75])
              exact ret_int rfl (by unfold nomL; rw [hn, if_pos ⟨by omega, hc117, by decide⟩])
            · try dsimp only at hc117
              refine TC.skip' ?_
              refine TC.seq ?_
              refine TC.region ?_
              refine TL.run1 (pure_move rfl) rfl ?_
              refine TL.run1 (pure_assign rfl) rfl ?_
              refine TL.nil' ?_
              refine TC.ret ?_
              have hn : nomP f p = 280 := by (unfold nomP; rw [if_neg (show ¬ Zero (classP p) from hc9), if_neg hww, if_neg (fun h => h (by omega))]; unfold baseP; rw [if_neg hc68, if_pos hc75])
              exact ret_int rfl (by unfold nomL; rw [hn, if_neg (fun h => by rw [hc117] at h; cases h.2.1)])
          · try dsimp only at hc75
            have hc75 : ¬ hasB strA p = true := by rw [hc75]; simp
            refine TC.seq ?_
            refine TC.region ?_
            refine TL.run1 (pure_move rfl) rfl ?_
            first | refine TL.run1 (pure_call (has_spec strA p (by decide)) (.cons rfl (.cons rfl .nil)) Tryd.call57) rfl ?_ | refine TL.run1 (pure_call (has_spec strB p (by decide)) (.cons rfl (.cons rfl .nil)) Tryd.call57) rfl ?_
            refine TL.run1 (pure_assign rfl) rfl ?_
            refine TL.nil' ?_
            first | refine TC.condD rfl (fun hc78 => ?_) (fun hc78 => ?_) | refine TC.condN rfl (fun hc78 => ?_) (fun hc78 => ?_) | refine TC.cond rfl (fun hc78 => ?_) (fun hc78 => ?_)
            · try dsimp only at hc78
              refine TC.region ?_
              refine TL.run1 (pure_assign rfl) rfl ?_
              refine TL.nil ?_
              refine block_normal ?_
              refine then_normal ?_
              refine TC.seq ?_
              refine TC.seq ?_
              refine TC.region ?_
              first | refine TL.run1 (pure_fieldAddr Ty.f23_3 rfl (.succ (.succ (.succ (.zero _)))) (List.cons_ne_nil _ _)) rfl ?_ | refine TL.run1 (pure_fieldAddr_own Ty.f23_3 rfl) rfl ?_
              first | refine TL.run1 (pure_load1 Ty.one4 rfl) rfl ?_ | refine TL.run1 (pure_load1_own Ty.one4 rfl (by repeat (first | exact List.Mem.head _ | apply List.Mem.tail)) (by repeat (first | exact DropR.zero _ | apply DropR.succ))) rfl ?_
              refine TL.nil' ?_
              first | refine TC.condD rfl (fun hc117 => ?_) (fun hc117 => ?_) | refine TC.condN rfl (fun hc117 => ?_) (fun hc117 => ?_) | refine TC.cond rfl (fun hc117 => ?_) (fun hc117 => ?_)
              · try dsimp only at hc117
                refine TC.region ?_
                refine TL.run1 (pure_move rfl) rfl ?_
                refine TL.run1 (pure_add rfl rfl (mkI64 (by omega) (by omega))) rfl ?_
                refine TL.run1 (pure_assign rfl) rfl ?_
                refine TL.nil' ?_
                refine TC.seq ?_
                refine TC.region ?_
                refine TL.run1 (pure_move rfl) rfl ?_
                refine TL.run1 (pure_assign rfl) rfl ?_
                refine TL.nil' ?_
                refine TC.ret ?_
                have hn : nomP f p = 340 := by (unfold nomP; rw [if_neg (show ¬ Zero (classP p) from hc9), if_neg hww, if_neg (fun h => h (by omega))]; unfold baseP; rw [if_neg hc68, if_neg hc75, if_pos hc78])
                exact ret_int rfl (by unfold nomL; rw [hn, if_pos ⟨by omega, hc117, by decide⟩])
              · try dsimp only at hc117
                refine TC.skip' ?_
                refine TC.seq ?_
                refine TC.region ?_
                refine TL.run1 (pure_move rfl) rfl ?_
                refine TL.run1 (pure_assign rfl) rfl ?_
                refine TL.nil' ?_
                refine TC.ret ?_
                have hn : nomP f p = 340 := by (unfold nomP; rw [if_neg (show ¬ Zero (classP p) from hc9), if_neg hww, if_neg (fun h => h (by omega))]; unfold baseP; rw [if_neg hc68, if_neg hc75, if_pos hc78])
                exact ret_int rfl (by unfold nomL; rw [hn, if_neg (fun h => by rw [hc117] at h; cases h.2.1)])
            · try dsimp only at hc78
              have hc78 : ¬ hasB strB p = true := by rw [hc78]; simp
              refine TC.regionCut [82, 83, 84, 85, 86, 87, 81] 81 (p = 109 ∨ p = 119) ?_ ?_
              · skip
                refine TL.run1 (pure_move rfl) rfl ?_
                refine TL.run1 (pure_eql rfl rfl) rfl ?_
                refine TL.run1 (pure_move rfl) rfl ?_
                first | refine TL.splitP 84 rfl (fun hg84 => ?_) (fun hg84 => ?_) | refine TL.split 84 rfl (fun hg84 => ?_) (fun hg84 => ?_)
                · try dsimp only at hg84
                  refine TL.passG rfl rfl rfl rfl ?_
                  refine TL.passG rfl rfl rfl rfl ?_
                  refine TL.run1 (pure_pick_true rfl rfl) rfl ?_
                  refine TL.run1 (pure_assign rfl) rfl ?_
                  refine TL.cutEnd (by repeat (first | exact Same.refl _ _ | refine Same.put rfl ?_)) rfl ?_
                  first | (simp only [decide_eq_true_eq, Bool.false_eq_true, false_iff, true_iff, iff_true, iff_false, Bool.not_eq_true]; omega) | (simp_all; done) | (simp_all; omega) | grind
                · try dsimp only at hg84
                  refine TL.runG rfl rfl (pure_move rfl) rfl ?_
                  refine TL.runG rfl rfl (pure_eql rfl rfl) rfl ?_
                  refine TL.run1 (pure_pick_false rfl rfl) rfl ?_
                  refine TL.run1 (pure_assign rfl) rfl ?_
                  refine TL.cutEnd (by repeat (first | exact Same.refl _ _ | refine Same.put rfl ?_)) rfl ?_
                  first | (simp only [decide_eq_true_eq, Bool.false_eq_true, false_iff, true_iff, iff_true, iff_false, Bool.not_eq_true]; omega) | (simp_all; done) | (simp_all; omega) | grind
              first | refine TC.condD rfl (fun hc81 => ?_) (fun hc81 => ?_) | refine TC.condN rfl (fun hc81 => ?_) (fun hc81 => ?_) | refine TC.cond rfl (fun hc81 => ?_) (fun hc81 => ?_)
              · try dsimp only at hc81
                refine TC.region ?_
                refine TL.run1 (pure_assign rfl) rfl ?_
                refine TL.nil ?_
                refine block_normal ?_
                refine then_normal ?_
                refine TC.seq ?_
                refine TC.seq ?_
                refine TC.region ?_
                first | refine TL.run1 (pure_fieldAddr Ty.f23_3 rfl (.succ (.succ (.succ (.zero _)))) (List.cons_ne_nil _ _)) rfl ?_ | refine TL.run1 (pure_fieldAddr_own Ty.f23_3 rfl) rfl ?_
                first | refine TL.run1 (pure_load1 Ty.one4 rfl) rfl ?_ | refine TL.run1 (pure_load1_own Ty.one4 rfl (by repeat (first | exact List.Mem.head _ | apply List.Mem.tail)) (by repeat (first | exact DropR.zero _ | apply DropR.succ))) rfl ?_
                refine TL.nil' ?_
                first | refine TC.condD rfl (fun hc117 => ?_) (fun hc117 => ?_) | refine TC.condN rfl (fun hc117 => ?_) (fun hc117 => ?_) | refine TC.cond rfl (fun hc117 => ?_) (fun hc117 => ?_)
                · try dsimp only at hc117
                  refine TC.region ?_
                  refine TL.run1 (pure_move rfl) rfl ?_
                  refine TL.run1 (pure_add rfl rfl (mkI64 (by omega) (by omega))) rfl ?_
                  refine TL.run1 (pure_assign rfl) rfl ?_
                  refine TL.nil' ?_
                  refine TC.seq ?_
                  refine TC.region ?_
                  refine TL.run1 (pure_move rfl) rfl ?_
                  refine TL.run1 (pure_assign rfl) rfl ?_
                  refine TL.nil' ?_
                  refine TC.ret ?_
                  have hn : nomP f p = 780 := by (unfold nomP; rw [if_neg (show ¬ Zero (classP p) from hc9), if_neg hww, if_neg (fun h => h (by omega))]; unfold baseP; rw [if_neg hc68, if_neg hc75, if_neg hc78, if_pos hc81])
                  exact ret_int rfl (by unfold nomL; rw [hn, if_pos ⟨by omega, hc117, by decide⟩])
                · try dsimp only at hc117
                  refine TC.skip' ?_
                  refine TC.seq ?_
                  refine TC.region ?_
                  refine TL.run1 (pure_move rfl) rfl ?_
                  refine TL.run1 (pure_assign rfl) rfl ?_
                  refine TL.nil' ?_
                  refine TC.ret ?_
                  have hn : nomP f p = 780 := by (unfold nomP; rw [if_neg (show ¬ Zero (classP p) from hc9), if_neg hww, if_neg (fun h => h (by omega))]; unfold baseP; rw [if_neg hc68, if_neg hc75, if_neg hc78, if_pos hc81])
                  exact ret_int rfl (by unfold nomL; rw [hn, if_neg (fun h => by rw [hc117] at h; cases h.2.1)])
              · try dsimp only at hc81
                refine TC.regionCut [89, 90, 91, 92, 93, 94, 88] 88 (97 ≤ p ∧ p ≤ 122) ?_ ?_
                · skip
                  refine TL.run1 (pure_move rfl) rfl ?_
                  refine TL.run1 (pure_geq rfl rfl) rfl ?_
                  refine TL.run1 (pure_move rfl) rfl ?_
                  first | refine TL.splitP 91 rfl (fun hg91 => ?_) (fun hg91 => ?_) | refine TL.split 91 rfl (fun hg91 => ?_) (fun hg91 => ?_)
                  · try dsimp only at hg91
                    refine TL.runG rfl rfl (pure_move rfl) rfl ?_
                    refine TL.runG rfl rfl (pure_leq rfl rfl) rfl ?_
                    refine TL.run1 (pure_pick_true rfl rfl) rfl ?_
                    refine TL.run1 (pure_assign rfl) rfl ?_
                    refine TL.cutEnd (by repeat (first | exact Same.refl _ _ | refine Same.put rfl ?_)) rfl ?_
                    first | (simp only [decide_eq_true_eq, Bool.false_eq_true, false_iff, true_iff, iff_true, iff_false, Bool.not_eq_true]; omega) | (simp_all; done) | (simp_all; omega) | grind
                  · try dsimp only at hg91
                    refine TL.passG rfl rfl rfl rfl ?_
                    refine TL.passG rfl rfl rfl rfl ?_
                    refine TL.run1 (pure_pick_false rfl rfl) rfl ?_
                    refine TL.run1 (pure_assign rfl) rfl ?_
                    refine TL.cutEnd (by repeat (first | exact Same.refl _ _ | refine Same.put rfl ?_)) rfl ?_
                    first | (simp only [decide_eq_true_eq, Bool.false_eq_true, false_iff, true_iff, iff_true, iff_false, Bool.not_eq_true]; omega) | (simp_all; done) | (simp_all; omega) | grind
                first | refine TC.condD rfl (fun hc88 => ?_) (fun hc88 => ?_) | refine TC.condN rfl (fun hc88 => ?_) (fun hc88 => ?_) | refine TC.cond rfl (fun hc88 => ?_) (fun hc88 => ?_)
                · try dsimp only at hc88
                  refine TC.region ?_
                  refine TL.run1 (pure_assign rfl) rfl ?_
                  refine TL.nil ?_
                  refine block_normal ?_
                  refine then_normal ?_
                  refine TC.seq ?_
                  refine TC.seq ?_
                  refine TC.region ?_
                  first | refine TL.run1 (pure_fieldAddr Ty.f23_3 rfl (.succ (.succ (.succ (.zero _)))) (List.cons_ne_nil _ _)) rfl ?_ | refine TL.run1 (pure_fieldAddr_own Ty.f23_3 rfl) rfl ?_
                  first | refine TL.run1 (pure_load1 Ty.one4 rfl) rfl ?_ | refine TL.run1 (pure_load1_own Ty.one4 rfl (by repeat (first | exact List.Mem.head _ | apply List.Mem.tail)) (by repeat (first | exact DropR.zero _ | apply DropR.succ))) rfl ?_
                  refine TL.nil' ?_
                  first | refine TC.condD rfl (fun hc117 => ?_) (fun hc117 => ?_) | refine TC.condN rfl (fun hc117 => ?_) (fun hc117 => ?_) | refine TC.cond rfl (fun hc117 => ?_) (fun hc117 => ?_)
                  · try dsimp only at hc117
                    refine TC.region ?_
                    refine TL.run1 (pure_move rfl) rfl ?_
                    refine TL.run1 (pure_add rfl rfl (mkI64 (by omega) (by omega))) rfl ?_
                    refine TL.run1 (pure_assign rfl) rfl ?_
                    refine TL.nil' ?_
                    refine TC.seq ?_
                    refine TC.region ?_
                    refine TL.run1 (pure_move rfl) rfl ?_
                    refine TL.run1 (pure_assign rfl) rfl ?_
                    refine TL.nil' ?_
                    refine TC.ret ?_
                    have hn : nomP f p = 500 := by (unfold nomP; rw [if_neg (show ¬ Zero (classP p) from hc9), if_neg hww, if_neg (fun h => h (by omega))]; unfold baseP; rw [if_neg hc68, if_neg hc75, if_neg hc78, if_neg hc81, if_pos hc88])
                    exact ret_int rfl (by unfold nomL; rw [hn, if_pos ⟨by omega, hc117, by decide⟩])
                  · try dsimp only at hc117
                    refine TC.skip' ?_
                    refine TC.seq ?_
                    refine TC.region ?_
                    refine TL.run1 (pure_move rfl) rfl ?_
                    refine TL.run1 (pure_assign rfl) rfl ?_
                    refine TL.nil' ?_
                    refine TC.ret ?_
                    have hn : nomP f p = 500 := by (unfold nomP; rw [if_neg (show ¬ Zero (classP p) from hc9), if_neg hww, if_neg (fun h => h (by omega))]; unfold baseP; rw [if_neg hc68, if_neg hc75, if_neg hc78, if_neg hc81, if_pos hc88])
                    exact ret_int rfl (by unfold nomL; rw [hn, if_neg (fun h => by rw [hc117] at h; cases h.2.1)])
                · try dsimp only at hc88
                  refine TC.regionCut [96, 97, 98, 99, 100, 101, 95] 95 (p = 77 ∨ p = 87) ?_ ?_
                  · skip
                    refine TL.run1 (pure_move rfl) rfl ?_
                    refine TL.run1 (pure_eql rfl rfl) rfl ?_
                    refine TL.run1 (pure_move rfl) rfl ?_
                    first | refine TL.splitP 98 rfl (fun hg98 => ?_) (fun hg98 => ?_) | refine TL.split 98 rfl (fun hg98 => ?_) (fun hg98 => ?_)
                    · try dsimp only at hg98
                      refine TL.passG rfl rfl rfl rfl ?_
                      refine TL.passG rfl rfl rfl rfl ?_
                      refine TL.run1 (pure_pick_true rfl rfl) rfl ?_
                      refine TL.run1 (pure_assign rfl) rfl ?_
                      refine TL.cutEnd (by repeat (first | exact Same.refl _ _ | refine Same.put rfl ?_)) rfl ?_
                      first | (simp only [decide_eq_true_eq, Bool.false_eq_true, false_iff, true_iff, iff_true, iff_false, Bool.not_eq_true]; omega) | (simp_all; done) | (simp_all; omega) | grind
                    · try dsimp only at hg98
                      refine TL.runG rfl rfl (pure_move rfl) rfl ?_
                      refine TL.runG rfl rfl (pure_eql rfl rfl) rfl ?_
                      refine TL.run1 (pure_pick_false rfl rfl) rfl ?_
                      refine TL.run1 (pure_assign rfl) rfl ?_
                      refine TL.cutEnd (by repeat (first | exact Same.refl _ _ | refine Same.put rfl ?_)) rfl ?_
                      first | (simp only [decide_eq_true_eq, Bool.false_eq_true, false_iff, true_iff, iff_true, iff_false, Bool.not_eq_true]; omega) | (simp_all; done) | (simp_all; omega) | grind
                  first | refine TC.condD rfl (fun hc95 => ?_) (fun hc95 => ?_) | refine TC.condN rfl (fun hc95 => ?_) (fun hc95 => ?_) | refine TC.cond rfl (fun hc95 => ?_) (fun hc95 => ?_)
                  · try dsimp only at hc95
                    refine TC.region ?_
                    refine TL.run1 (pure_assign rfl) rfl ?_
                    refine TL.nil ?_
                    refine block_normal ?_
                    refine then_normal ?_
                    refine TC.seq ?_
                    refine TC.seq ?_
                    refine TC.region ?_
                    first | refine TL.run1 (pure_fieldAddr Ty.f23_3 rfl (.succ (.succ (.succ (.zero _)))) (List.cons_ne_nil _ _)) rfl ?_ | refine TL.run1 (pure_fieldAddr_own Ty.f23_3 rfl) rfl ?_
                    first | refine TL.run1 (pure_load1 Ty.one4 rfl) rfl ?_ | refine TL.run1 (pure_load1_own Ty.one4 rfl (by repeat (first | exact List.Mem.head _ | apply List.Mem.tail)) (by repeat (first | exact DropR.zero _ | apply DropR.succ))) rfl ?_
                    refine TL.nil' ?_
                    first | refine TC.condD rfl (fun hc117 => ?_) (fun hc117 => ?_) | refine TC.condN rfl (fun hc117 => ?_) (fun hc117 => ?_) | refine TC.cond rfl (fun hc117 => ?_) (fun hc117 => ?_)
                    · try dsimp only at hc117
                      refine TC.region ?_
                      refine TL.run1 (pure_move rfl) rfl ?_
                      refine TL.run1 (pure_add rfl rfl (mkI64 (by omega) (by omega))) rfl ?_
                      refine TL.run1 (pure_assign rfl) rfl ?_
                      refine TL.nil' ?_
                      refine TC.seq ?_
                      refine TC.region ?_
                      refine TL.run1 (pure_move rfl) rfl ?_
                      refine TL.run1 (pure_assign rfl) rfl ?_
                      refine TL.nil' ?_
                      refine TC.ret ?_
                      have hn : nomP f p = 880 := by (unfold nomP; rw [if_neg (show ¬ Zero (classP p) from hc9), if_neg hww, if_neg (fun h => h (by omega))]; unfold baseP; rw [if_neg hc68, if_neg hc75, if_neg hc78, if_neg hc81, if_neg hc88, if_pos hc95])
                      exact ret_int rfl (by unfold nomL; rw [hn, if_pos ⟨by omega, hc117, by decide⟩])
                    · try dsimp only at hc117
                      refine TC.skip' ?_
                      refine TC.seq ?_
                      refine TC.region ?_
                      refine TL.run1 (pure_move rfl) rfl ?_
                      refine TL.run1 (pure_assign rfl) rfl ?_
                      refine TL.nil' ?_
                      refine TC.ret ?_
                      have hn : nomP f p = 880 := by (unfold nomP; rw [if_neg (show ¬ Zero (classP p) from hc9), if_neg hww, if_neg (fun h => h (by omega))]; unfold baseP; rw [if_neg hc68, if_neg hc75, if_neg hc78, if_neg hc81, if_neg hc88, if_pos hc95])
                      exact ret_int rfl (by unfold nomL; rw [hn, if_neg (fun h => by rw [hc117] at h; cases h.2.1)])
                  · try dsimp only at hc95
                    refine TC.regionCut [103, 104, 105, 106, 107, 108, 102] 102 (65 ≤ p ∧ p ≤ 90) ?_ ?_
                    · skip
                      refine TL.run1 (pure_move rfl) rfl ?_
                      refine TL.run1 (pure_geq rfl rfl) rfl ?_
                      refine TL.run1 (pure_move rfl) rfl ?_
                      first | refine TL.splitP 105 rfl (fun hg105 => ?_) (fun hg105 => ?_) | refine TL.split 105 rfl (fun hg105 => ?_) (fun hg105 => ?_)
                      · try dsimp only at hg105
                        refine TL.runG rfl rfl (pure_move rfl) rfl ?_
                        refine TL.runG rfl rfl (pure_leq rfl rfl) rfl ?_
                        refine TL.run1 (pure_pick_true rfl rfl) rfl ?_
                        refine TL.run1 (pure_assign rfl) rfl ?_
                        refine TL.cutEnd (by repeat (first | exact Same.refl _ _ | refine Same.put rfl ?_)) rfl ?_
                        first | (simp only [decide_eq_true_eq, Bool.false_eq_true, false_iff, true_iff, iff_true, iff_false, Bool.not_eq_true]; omega) | (simp_all; done) | (simp_all; omega) | grind
                      · try dsimp only at hg105
                        refine TL.passG rfl rfl rfl rfl ?_
                        refine TL.passG rfl rfl rfl rfl ?_
                        refine TL.run1 (pure_pick_false rfl rfl) rfl ?_
                        refine TL.run1 (pure_assign rfl) rfl ?_
                        refine TL.cutEnd (by repeat (first | exact Same.refl _ _ | refine Same.put rfl ?_)) rfl ?_
                        first | (simp only [decide_eq_true_eq, Bool.false_eq_true, false_iff, true_iff, iff_true, iff_false, Bool.not_eq_true]; omega) | (simp_all; done) | (simp_all; omega) | grind
                    first | refine TC.condD rfl (fun hc102 => ?_) (fun hc102 => ?_) | refine TC.condN rfl (fun hc102 => ?_) (fun hc102 => ?_) | refine TC.cond rfl (fun hc102 => ?_) (fun hc102 => ?_)
                    · try dsimp only at hc102
                      refine TC.region ?_
                      refine TL.run1 (pure_assign rfl) rfl ?_
                      refine TL.nil ?_
                      refine block_normal ?_
                      refine then_normal ?_
                      refine TC.seq ?_
                      refine TC.seq ?_
                      refine TC.region ?_
                      first | refine TL.run1 (pure_fieldAddr Ty.f23_3 rfl (.succ (.succ (.succ (.zero _)))) (List.cons_ne_nil _ _)) rfl ?_ | refine TL.run1 (pure_fieldAddr_own Ty.f23_3 rfl) rfl ?_
                      first | refine TL.run1 (pure_load1 Ty.one4 rfl) rfl ?_ | refine TL.run1 (pure_load1_own Ty.one4 rfl (by repeat (first | exact List.Mem.head _ | apply List.Mem.tail)) (by repeat (first | exact DropR.zero _ | apply DropR.succ))) rfl ?_
                      refine TL.nil' ?_
                      first | refine TC.condD rfl (fun hc117 => ?_) (fun hc117 => ?_) | refine TC.condN rfl (fun hc117 => ?_) (fun hc117 => ?_) | refine TC.cond rfl (fun hc117 => ?_) (fun hc117 => ?_)
                      · try dsimp only at hc117
                        refine TC.region ?_
                        refine TL.run1 (pure_move rfl) rfl ?_
                        refine TL.run1 (pure_add rfl rfl (mkI64 (by omega) (by omega))) rfl ?_
                        refine TL.run1 (pure_assign rfl) rfl ?_
                        refine TL.nil' ?_
                        refine TC.seq ?_
                        refine TC.region ?_
                        refine TL.run1 (pure_move rfl) rfl ?_
                        refine TL.run1 (pure_assign rfl) rfl ?_
                        refine TL.nil' ?_
                        refine TC.ret ?_
                        have hn : nomP f p = 660 := by (unfold nomP; rw [if_neg (show ¬ Zero (classP p) from hc9), if_neg hww, if_neg (fun h => h (by omega))]; unfold baseP; rw [if_neg hc68, if_neg hc75, if_neg hc78, if_neg hc81, if_neg hc88, if_neg hc95, if_pos hc102])
                        exact ret_int rfl (by unfold nomL; rw [hn, if_pos ⟨by omega, hc117, by decide⟩])
                      · try dsimp only at hc117
                        refine TC.skip' ?_
                        refine TC.seq ?_
                        refine TC.region ?_
                        refine TL.run1 (pure_move rfl) rfl ?_
                        refine TL.run1 (pure_assign rfl) rfl ?_
                        refine TL.nil' ?_
                        refine TC.ret ?_
                        have hn : nomP f p = 660 := by (unfold nomP; rw [if_neg (show ¬ Zero (classP p) from hc9), if_neg hww, if_neg (fun h => h (by omega))]; unfold baseP; rw [if_neg hc68, if_neg hc75, if_neg hc78, if_neg hc81, if_neg hc88, if_neg hc95, if_pos hc102])
                        exact ret_int rfl (by unfold nomL; rw [hn, if_neg (fun h => by rw [hc117] at h; cases h.2.1)])
                    · try dsimp only at hc102
                      refine TC.regionCut [110, 111, 112, 113, 114, 115, 109] 109 (48 ≤ p ∧ p ≤ 57) ?_ ?_
                      · skip
                        refine TL.run1 (pure_move rfl) rfl ?_
                        refine TL.run1 (pure_geq rfl rfl) rfl ?_
                        refine TL.run1 (pure_move rfl) rfl ?_
                        first | refine TL.splitP 112 rfl (fun hg112 => ?_) (fun hg112 => ?_) | refine TL.split 112 rfl (fun hg112 => ?_) (fun hg112 => ?_)
                        · try dsimp only at hg112
                          refine TL.runG rfl rfl (pure_move rfl) rfl ?_
                          refine TL.runG rfl rfl (pure_leq rfl rfl) rfl ?_
                          refine TL.run1 (pure_pick_true rfl rfl) rfl ?_
                          refine TL.run1 (pure_assign rfl) rfl ?_
                          refine TL.cutEnd (by repeat (first | exact Same.refl _ _ | refine Same.put rfl ?_)) rfl ?_
                          first | (simp only [decide_eq_true_eq, Bool.false_eq_true, false_iff, true_iff, iff_true, iff_false, Bool.not_eq_true]; omega) | (simp_all; done) | (simp_all; omega) | grind
                        · try dsimp only at hg112
                          refine TL.passG rfl rfl rfl rfl ?_
                          refine TL.passG rfl rfl rfl rfl ?_
                          refine TL.run1 (pure_pick_false rfl rfl) rfl ?_
                          refine TL.run1 (pure_assign rfl) rfl ?_
                          refine TL.cutEnd (by repeat (first | exact Same.refl _ _ | refine Same.put rfl ?_)) rfl ?_
                          first | (simp only [decide_eq_true_eq, Bool.false_eq_true, false_iff, true_iff, iff_true, iff_false, Bool.not_eq_true]; omega) | (simp_all; done) | (simp_all; omega) | grind
                      first | refine TC.condD rfl (fun hc109 => ?_) (fun hc109 => ?_) | refine TC.condN rfl (fun hc109 => ?_) (fun hc109 => ?_) | refine TC.cond rfl (fun hc109 => ?_) (fun hc109 => ?_)
                      · try dsimp only at hc109
                        refine TC.region ?_
                        refine TL.run1 (pure_assign rfl) rfl ?_
                        refine TL.nil ?_
                        refine block_normal ?_
                        refine then_normal ?_
                        refine TC.seq ?_
                        refine TC.seq ?_
                        refine TC.region ?_
                        first | refine TL.run1 (pure_fieldAddr Ty.f23_3 rfl (.succ (.succ (.succ (.zero _)))) (List.cons_ne_nil _ _)) rfl ?_ | refine TL.run1 (pure_fieldAddr_own Ty.f23_3 rfl) rfl ?_
                        first | refine TL.run1 (pure_load1 Ty.one4 rfl) rfl ?_ | refine TL.run1 (pure_load1_own Ty.one4 rfl (by repeat (first | exact List.Mem.head _ | apply List.Mem.tail)) (by repeat (first | exact DropR.zero _ | apply DropR.succ))) rfl ?_
                        refine TL.nil' ?_
                        first | refine TC.condD rfl (fun hc117 => ?_) (fun hc117 => ?_) | refine TC.condN rfl (fun hc117 => ?_) (fun hc117 => ?_) | refine TC.cond rfl (fun hc117 => ?_) (fun hc117 => ?_)
                        · try dsimp only at hc117
                          refine TC.region ?_
                          refine TL.run1 (pure_move rfl) rfl ?_
                          refine TL.run1 (pure_add rfl rfl (mkI64 (by omega) (by omega))) rfl ?_
                          refine TL.run1 (pure_assign rfl) rfl ?_
                          refine TL.nil' ?_
                          refine TC.seq ?_
                          refine TC.region ?_
                          refine TL.run1 (pure_move rfl) rfl ?_
                          refine TL.run1 (pure_assign rfl) rfl ?_
                          refine TL.nil' ?_
                          refine TC.ret ?_
                          have hn : nomP f p = 500 := by (unfold nomP; rw [if_neg (show ¬ Zero (classP p) from hc9), if_neg hww, if_neg (fun h => h (by omega))]; unfold baseP; rw [if_neg hc68, if_neg hc75, if_neg hc78, if_neg hc81, if_neg hc88, if_neg hc95, if_neg hc102, if_pos hc109])
                          exact ret_int rfl (by unfold nomL; rw [hn, if_pos ⟨by omega, hc117, by decide⟩])
                        · try dsimp only at hc117
                          refine TC.skip' ?_
                          refine TC.seq ?_
                          refine TC.region ?_
                          refine TL.run1 (pure_move rfl) rfl ?_
                          refine TL.run1 (pure_assign rfl) rfl ?_
                          refine TL.nil' ?_
                          refine TC.ret ?_
                          have hn : nomP f p = 500 := by (unfold nomP; rw [if_neg (show ¬ Zero (classP p) from hc9), if_neg hww, if_neg (fun h => h (by omega))]; unfold baseP; rw [if_neg hc68, if_neg hc75, if_neg hc78, if_neg hc81, if_neg hc88, if_neg hc95, if_neg hc102, if_pos hc109])
                          exact ret_int rfl (by unfold nomL; rw [hn, if_neg (fun h => by rw [hc117] at h; cases h.2.1)])
                      · try dsimp only at hc109
                        refine TC.skip ?_
                        refine block_normal ?_
                        refine then_normal ?_
                        refine TC.seq ?_
                        refine TC.seq ?_
                        refine TC.region ?_
                        first | refine TL.run1 (pure_fieldAddr Ty.f23_3 rfl (.succ (.succ (.succ (.zero _)))) (List.cons_ne_nil _ _)) rfl ?_ | refine TL.run1 (pure_fieldAddr_own Ty.f23_3 rfl) rfl ?_
                        first | refine TL.run1 (pure_load1 Ty.one4 rfl) rfl ?_ | refine TL.run1 (pure_load1_own Ty.one4 rfl (by repeat (first | exact List.Mem.head _ | apply List.Mem.tail)) (by repeat (first | exact DropR.zero _ | apply DropR.succ))) rfl ?_
                        refine TL.nil' ?_
                        first | refine TC.condD rfl (fun hc117 => ?_) (fun hc117 => ?_) | refine TC.condN rfl (fun hc117 => ?_) (fun hc117 => ?_) | refine TC.cond rfl (fun hc117 => ?_) (fun hc117 => ?_)
                        · try dsimp only at hc117
                          refine TC.region ?_
                          refine TL.run1 (pure_move rfl) rfl ?_
                          refine TL.run1 (pure_add rfl rfl (mkI64 (by omega) (by omega))) rfl ?_
                          refine TL.run1 (pure_assign rfl) rfl ?_
                          refine TL.nil' ?_
                          refine TC.seq ?_
                          refine TC.region ?_
                          refine TL.run1 (pure_move rfl) rfl ?_
                          refine TL.run1 (pure_assign rfl) rfl ?_
                          refine TL.nil' ?_
                          refine TC.ret ?_
                          have hn : nomP f p = 560 := by (unfold nomP; rw [if_neg (show ¬ Zero (classP p) from hc9), if_neg hww, if_neg (fun h => h (by omega))]; unfold baseP; rw [if_neg hc68, if_neg hc75, if_neg hc78, if_neg hc81, if_neg hc88, if_neg hc95, if_neg hc102, if_neg hc109])
                          exact ret_int rfl (by unfold nomL; rw [hn, if_pos ⟨by omega, hc117, by decide⟩])
                        · try dsimp only at hc117
                          refine TC.skip' ?_
                          refine TC.seq ?_
                          refine TC.region ?_
                          refine TL.run1 (pure_move rfl) rfl ?_
                          refine TL.run1 (pure_assign rfl) rfl ?_
                          refine TL.nil' ?_
                          refine TC.ret ?_
                          have hn : nomP f p = 560 := by (unfold nomP; rw [if_neg (show ¬ Zero (classP p) from hc9), if_neg hww, if_neg (fun h => h (by omega))]; unfold baseP; rw [if_neg hc68, if_neg hc75, if_neg hc78, if_neg hc81, if_neg hc88, if_neg hc95, if_neg hc102, if_neg hc109])
                          exact ret_int rfl (by unfold nomL; rw [hn, if_neg (fun h => by rw [hc117] at h; cases h.2.1)])
set_option maxRecDepth 100000 in
theorem lwidth_spec (f : Fo) (c : ByteArray) (hf : ¬ FBad f) : Fun Tryd.prog 17 [.agg [.v (.int .i64 f.face), .v (.int .i64 f.size), .v (.int .i64 f.raise), .v (.bool f.bold)], .v (.string c)] (.v (.int .i64 (widP f c))) := by
  refine Fun.enter (n := 11) (rs := [.tmp 4]) Tryd.func17 rfl Tryd.ntmps17 Tryd.results17 rfl (fun w F => ?_)
  have hnl := nomL_range f (p1 c)
  refine TC.seq ?_
  refine TC.region ?_
  refine TL.box rfl (.agg _) rfl (fun g2 => ?_)
  refine TL.run1 (pure_assign rfl) rfl ?_
  refine TL.nil' ?_
  refine TC.seq ?_
  refine TC.draw Ty.follows (by kernel_rfl) ?_
  first | refine TD.run1 (pure_load Ty.agg23 rfl (.succ (.succ (.succ (.succ (.zero _)))))) rfl ?_ | refine TD.run1 (pure_load_own Ty.agg23 rfl (by repeat (first | exact List.Mem.head _ | apply List.Mem.tail)) (by repeat (first | exact DropR.zero _ | apply DropR.succ)) (.succ (.succ (.succ (.succ (.zero _)))))) rfl ?_
  first | refine TD.run1 (pure_load Ty.agg23 rfl (.succ (.succ (.succ (.succ (.zero _)))))) rfl ?_ | refine TD.run1 (pure_load_own Ty.agg23 rfl (by repeat (first | exact List.Mem.head _ | apply List.Mem.tail)) (by repeat (first | exact DropR.zero _ | apply DropR.succ)) (.succ (.succ (.succ (.succ (.zero _)))))) rfl ?_
  refine TD.run1 (pure_move rfl) rfl ?_
  refine TD.run1 (pure_call (first_spec c) (.cons rfl .nil) Tryd.call39) rfl ?_
  refine TD.run1 (pure_call (lnominal_spec f (p1 c) hf) (.cons rfl (.cons rfl .nil)) Tryd.call38) rfl ?_
  refine TD.run1 (pure_call (scale_spec f (nomL f (p1 c)) hf hnl.1 (by omega)) (.cons rfl (.cons rfl .nil)) Tryd.call37) rfl ?_
  refine TD.run1 (pure_assign rfl) rfl ?_
  refine TD.nil' ?_
  refine TC.ret ?_
  exact ret_int rfl rfl
end Go.Ob
