import Derived.Test.YtkmgogabbefonaaDoorN5
import Derived.Test.YtkmgogabbefonaaDoorN2
set_option linter.unusedVariables false
set_option linter.unusedSimpArgs false
namespace Go.Ob
open Go.Proofs
/-! ### the width of two strings -/
theorem clu_nil {s : ByteArray} (hok : okS s = true) : (clS s).length = 0 ↔ nR s = 0 := by
  rw [clS_len, ← cls_len]
  constructor
  · intro h
    rcases Nat.eq_zero_or_pos (cls s).length with h0 | h0
    · exact h0
    · unfold cAll at h; rw [if_pos h0, List.length_append] at h; simp at h
  · intro h; rw [cAll_nil _ h]; rfl
theorem tAt_clS' (s : ByteArray) (i : Nat) : tAt (clS s) i = ((cAll (cls s))[i]?.map (subS s)).getD ⟨#[]⟩ := by
  unfold tAt clS
  rw [Int.toNat_natCast, List.getD_eq_getElem?_getD, List.getElem?_map]
theorem join_bk {s t : ByteArray} (hs : okS s = true) (ht : okS t = true) (h1 : 0 < nR s) (h2 : 0 < nR t) (he : tAt (clS (s ++ t)) (((clS s).length - 1 : Nat) : Int) = tAt (clS s) (((clS s).length - 1 : Nat) : Int)) : Bk (cls s ++ cls t) (cls s).length := by
  obtain ⟨e, m1, m2, m3, m4⟩ := cAll_meet (c := cls s) (d := cls t) (by rw [cls_len]; exact h1) (by rw [cls_len]; exact h2)
  rw [tAt_clS', tAt_clS', clS_len, (cls_app hs ht).2, m1] at he
  have hx : (cAll (cls s))[(cAll (cls s)).length - 1]? = some (lastB (cls s) (cls s).length, (cls s).length) := by
    unfold cAll; rw [if_pos (by rw [cls_len]; exact h1), List.length_append]; simp
  rw [hx] at he
  have he' : subS (s ++ t) (lastB (cls s) (cls s).length, e) = subS s (lastB (cls s) (cls s).length, (cls s).length) := he
  have hlb := lastB_le (cls s) (cls s).length
  rw [← sub_app1 (t := t) hs (by rw [← cls_len]; exact hlb) (by rw [cls_len]; exact Nat.le_refl _)] at he'
  have hz := congrArg ByteArray.size he'
  unfold subS at hz
  dsimp only at hz
  have hn : nR (s ++ t) = nR s + nR t := by rw [← cls_len, (cls_app hs ht).2, List.length_append, cls_len, cls_len]
  have q1 := rpos_mono (s ++ t) (show lastB (cls s) (cls s).length ≤ e by omega)
  have q2 := rpos_mono (s ++ t) (show e ≤ nR (s ++ t) by rw [hn]; rw [cls_len, cls_len] at m3; exact m3)
  have q3 := rpos_mono (s ++ t) (show (cls s).length ≤ nR (s ++ t) by rw [hn, cls_len]; omega)
  have q4 := rpos_mono (s ++ t) hlb
  rw [nR_end] at q2 q3
  rw [ByteArray.size_extract, ByteArray.size_extract] at hz
  refine m4 ?_
  rcases Nat.eq_or_lt_of_le m2 with h | h
  · exact h.symm
  · have := rpos_strict (s ++ t) h; omega
theorem tAt_l (x y : List ByteArray) (k : Nat) (h : k < x.length) : tAt (x ++ y) k = tAt x k := by
  unfold tAt; rw [Int.toNat_natCast, List.getD_eq_getElem?_getD, List.getD_eq_getElem?_getD, List.getElem?_append_left h]
theorem tAt_r (x y : List ByteArray) (k : Nat) : tAt (x ++ y) ((x.length + k : Nat) : Int) = tAt y k := by
  unfold tAt; rw [Int.toNat_natCast, Int.toNat_natCast, List.getD_eq_getElem?_getD, List.getD_eq_getElem?_getD, List.getElem?_append_right (by omega), Nat.add_sub_cancel_left]
theorem wS_left (f : Fo) (x y : List ByteArray) : ∀ k, k ≤ x.length → wS f (x ++ y) k = wS f x k
  | 0, _ => rfl
  | k + 1, h => by
    rw [wS, wS, wS_left f x y k (by omega), tAt_l x y k (by omega)]
    by_cases h0 : k = 0
    · rw [if_pos h0, if_pos h0]
    · rw [if_neg h0, if_neg h0, show (k : Int) - 1 = ((k - 1 : Nat) : Int) by omega, tAt_l x y (k - 1) (by omega)]
theorem wS_join {f : Fo} {x y : List ByteArray} (hx : 0 < x.length) (hy : ∀ c ∈ y, (cluV c).length = 1) : ∀ k, k + 1 ≤ y.length → wS f (x ++ y) (x.length + (k + 1)) = wS f x x.length + wS f y (k + 1) + krP f (tAt x ((x.length - 1 : Nat) : Int)) (tAt y ((0 : Nat) : Int))
  | 0, h => by
    have h1 := hy _ (tAt_mem y ((0 : Nat) : Int) (by omega) (by omega))
    rw [show x.length + (0 + 1) = x.length + 1 from rfl, wS, wS, wS, wS_left f x y _ (Nat.le_refl _), if_neg (by omega), if_pos rfl, krP_first h1]
    rw [show (x.length : Int) - 1 = ((x.length - 1 : Nat) : Int) by omega, tAt_l x y _ (by omega)]
    have := tAt_r x y 0
    rw [Nat.add_zero] at this
    rw [this]; omega
  | k + 1, h => by
    have ih := wS_join (f := f) hx hy k (by omega)
    rw [show x.length + (k + 1 + 1) = (x.length + (k + 1)) + 1 from rfl, wS, ih, wS.eq_2 f y (k + 1), if_neg (by omega), if_neg (by omega), tAt_r x y (k + 1)]
    rw [show (((x.length + (k + 1) : Nat)) : Int) - 1 = ((x.length + k : Nat) : Int) by omega, tAt_r x y k, show (((k + 1 : Nat)) : Int) - 1 = ((k : Nat) : Int) by omega]
    omega
theorem wS_raise (f : Fo) (r : Int) (l : List ByteArray) : ∀ k, wS ⟨f.face, f.size, r, f.bold⟩ l k = wS f l k
  | 0 => rfl
  | k + 1 => by rw [wS, wS, wS_raise f r l k]; rfl
theorem bad_raise {f : Fo} (h : ¬ FBad f) : ¬ FBad ⟨f.face, f.size, 0, f.bold⟩ := by unfold FBad at *; dsimp only; omega
/-- what the law asks of the clusters -/
def Split (a b : ByteArray) : Prop := okS a = true ∧ okS b = true ∧ (cluV a).length ≠ 0 ∧ (cluV b).length ≠ 0 ∧ (cluV (a ++ b)).length = (cluV a).length + (cluV b).length ∧ tAt (cluV (a ++ b)) (((cluV a).length - 1 : Nat) : Int) = tAt (cluV a) (((cluV a).length - 1 : Nat) : Int)
theorem adds_eq {f : Fo} {a b : ByteArray} (hf : ¬ FBad f) (h : Split a b) : okS (a ++ b) = true ∧ txtV f (a ++ b) = txtV f a + txtV f b + keV f (tAt (cluV a) (((cluV a).length - 1 : Nat) : Int)) (tAt (cluV b) ((0 : Nat) : Int)) ∧ txtV ⟨f.face, f.size, 0, f.bold⟩ (a ++ b) = txtV f (a ++ b) ∧ chkV f [tAt (cluV a) (((cluV a).length - 1 : Nat) : Int), tAt (cluV b) ((0 : Nat) : Int)] = 0 := by
  obtain ⟨ha, hb, h1, h2, h3, h4⟩ := h
  have hab := (cls_app ha hb).1
  have ea := (okV ha).2.2.2.1
  have eb := (okV hb).2.2.2.1
  have eab := (okV hab).2.2.2.1
  have na : 0 < nR a := by
    rcases Nat.eq_zero_or_pos (nR a) with h0 | h0
    · rw [ea, (clu_nil ha).2 h0] at h1; exact absurd rfl h1
    · exact h0
  have nb : 0 < nR b := by
    rcases Nat.eq_zero_or_pos (nR b) with h0 | h0
    · rw [eb, (clu_nil hb).2 h0] at h2; exact absurd rfl h2
    · exact h0
  rw [ea, eab] at h4
  have hbk := join_bk ha hb na nb h4
  have hj := clS_join ha hb na nb hbk
  have hj' : cluV (a ++ b) = cluV a ++ cluV b := by rw [ea, eb, eab]; exact hj
  have ma := tAt_mem (cluV a) (((cluV a).length - 1 : Nat) : Int) (by omega) (by omega)
  have mb := tAt_mem (cluV b) ((0 : Nat) : Int) (by omega) (by omega)
  have ca := clu_mem ha ma
  have cb := clu_mem hb mb
  have hck := chk_two hf ca.1 cb.1
  have hke : keV f (tAt (cluV a) (((cluV a).length - 1 : Nat) : Int)) (tAt (cluV b) ((0 : Nat) : Int)) = krP f (tAt (cluV a) (((cluV a).length - 1 : Nat) : Int)) (tAt (cluV b) ((0 : Nat) : Int)) := by
    unfold keV; rw [if_pos ⟨hck, ca.2.2, cb.2.2⟩]
  have t1 := (vok (x := 0) (chk_one hf ha)).2.1
  have t2 := (vok (x := 0) (chk_one hf hb)).2.1
  have t3 := (vok (x := 0) (chk_one hf hab)).2.1
  have t4 := (vok (x := 0) (chk_one (bad_raise hf) hab)).2.1
  refine ⟨hab, ?_, ?_, hck⟩
  · obtain ⟨k, hk⟩ : ∃ k, (cluV b).length = k + 1 := ⟨(cluV b).length - 1, by omega⟩
    have hw := wS_join (f := f) (x := cluV a) (y := cluV b) (by omega) (clu_ones hb) k (by omega)
    rw [t1, t2, t3, hke, hj', List.length_append, hk, hw]
  · rw [t3, t4, wS_raise]
set_option maxHeartbeats 4000000 in
set_option maxRecDepth 100000 in
theorem MetricsAdds_spec (f : Fo) (a b : ByteArray) : Fun Tryd.prog 7 [.agg [.v (.int .i64 f.face), .v (.int .i64 f.size), .v (.int .i64 f.raise), .v (.bool f.bold)], .v (.string a), .v (.string b)] (.v (.bool true)) := by
  refine Fun.enter (n := 173) (rs := [.tmp 6]) Tryd.func7 rfl Tryd.ntmps7 Tryd.results7 rfl (fun w F => ?_)
  refine TC.seq ?_
  refine TC.region ?_
  refine TL.box rfl (.agg _) rfl (fun g3 => ?_)
  refine TL.run1 (pure_assign rfl) rfl ?_
  refine TL.nil' ?_
  refine TC.seq ?_
  refine TC.region ?_
  refine TL.run1 (pure_move rfl) rfl ?_
  first | refine TL.run1 (pure_call (cut_spec a) (.cons rfl .nil) Tryd.call12) rfl ?_ | refine TL.run1 (pure_call (cut_spec b) (.cons rfl .nil) Tryd.call12) rfl ?_
  refine TL.run1 (pure_move rfl) rfl ?_
  first | refine TL.run1 (pure_call (cut_spec a) (.cons rfl .nil) Tryd.call12) rfl ?_ | refine TL.run1 (pure_call (cut_spec b) (.cons rfl .nil) Tryd.call12) rfl ?_
  refine TL.run1 (pure_assign rfl) rfl ?_
  refine TL.run1 (pure_assign rfl) rfl ?_
  refine TL.nil' ?_
  refine TC.seq ?_
  refine TC.seq ?_
  obtain ⟨c, hcd⟩ : ∃ c, cutT a = c := ⟨_, rfl⟩
  obtain ⟨d, hdd⟩ : ∃ d, cutT b = d := ⟨_, rfl⟩
  rw [hcd, hdd]
  have hcs : c.size ≤ 200 := hcd ▸ cutT_size a
  have hds : d.size ≤ 200 := hdd ▸ cutT_size b
  have hcds : (c ++ d).size ≤ 400 := by rw [size_app]; omega
  have l1 := encT_len (cluV c)
  have l2 := encT_len (cluV d)
  have l3 := encT_len (cluV (c ++ d))
  have g1 := cluV_len c
  have g2 := cluV_len d
  have g3 := cluV_len (c ++ d)
  refine TC.region ?_
  refine TL.run1 (pure_call (known_spec) .nil Tryd.call13) rfl ?_
  refine TL.run1 (pure_not rfl) rfl ?_
  refine TL.nil' ?_
  first | refine TC.condD rfl (fun hc29 => ?_) (fun hc29 => ?_) | refine TC.condN rfl (fun hc29 => ?_) (fun hc29 => ?_) | refine TC.cond rfl (fun hc29 => ?_) (fun hc29 => ?_)
  · try dsimp only at hc29
    exact absurd hc29 (by simp)
  · try dsimp only at hc29
    refine TC.skip' ?_
    refine TC.seq ?_
    refine TC.region ?_
    refine TL.run1 (pure_move rfl) rfl ?_
    first | refine TL.run1 (pure_call (Clusters_spec c (by omega)) (.cons rfl .nil) Tryd.call15) rfl ?_ | refine TL.run1 (pure_call (Clusters_spec d (by omega)) (.cons rfl .nil) Tryd.call15) rfl ?_ | refine TL.run1 (pure_call (Clusters_spec (c ++ d) (by omega)) (.cons rfl .nil) Tryd.call15) rfl ?_
    refine TL.run1 (pure_move rfl) rfl ?_
    refine TL.run1 (pure_extract rfl rfl) rfl ?_
    refine TL.run1 (pure_extract rfl rfl) rfl ?_
    refine TL.run1 (pure_assign rfl) rfl ?_
    refine TL.run1 (pure_assign rfl) rfl ?_
    refine TL.nil' ?_
    refine TC.seq ?_
    refine TC.region ?_
    refine TL.run1 (pure_move rfl) rfl ?_
    first | refine TL.run1 (pure_call (Clusters_spec c (by omega)) (.cons rfl .nil) Tryd.call15) rfl ?_ | refine TL.run1 (pure_call (Clusters_spec d (by omega)) (.cons rfl .nil) Tryd.call15) rfl ?_ | refine TL.run1 (pure_call (Clusters_spec (c ++ d) (by omega)) (.cons rfl .nil) Tryd.call15) rfl ?_
    refine TL.run1 (pure_move rfl) rfl ?_
    refine TL.run1 (pure_extract rfl rfl) rfl ?_
    refine TL.run1 (pure_extract rfl rfl) rfl ?_
    refine TL.run1 (pure_assign rfl) rfl ?_
    refine TL.run1 (pure_assign rfl) rfl ?_
    refine TL.nil' ?_
    refine TC.seq ?_
    refine TC.region ?_
    refine TL.run1 (pure_move rfl) rfl ?_
    refine TL.run1 (pure_move rfl) rfl ?_
    refine TL.run1 (pure_add_string (a := c) (b := d) rfl rfl (by omega)) rfl ?_
    first | refine TL.run1 (pure_call (Clusters_spec c (by omega)) (.cons rfl .nil) Tryd.call15) rfl ?_ | refine TL.run1 (pure_call (Clusters_spec d (by omega)) (.cons rfl .nil) Tryd.call15) rfl ?_ | refine TL.run1 (pure_call (Clusters_spec (c ++ d) (by omega)) (.cons rfl .nil) Tryd.call15) rfl ?_
    refine TL.run1 (pure_move rfl) rfl ?_
    refine TL.run1 (pure_extract rfl rfl) rfl ?_
    refine TL.run1 (pure_extract rfl rfl) rfl ?_
    refine TL.run1 (pure_assign rfl) rfl ?_
    refine TL.run1 (pure_assign rfl) rfl ?_
    refine TL.nil' ?_
    refine TC.seq ?_
    refine TC.drawCut [47, 48, 49, 50, 51, 52, 53, 54, 55, 56, 57, 58, 59, 60, 61, 62, 63, 64, 65, 66, 67, 68, 69, 70, 71, 72, 73, 74, 75, 76, 77, 78, 79, 80, 81, 82, 83, 84, 85, 86, 87, 88, 89, 90, 91, 92, 93, 94, 95, 96] 96 (errF f ≠ 0 ∨ errU c ≠ 0 ∨ errU d ≠ 0 ∨ errU (c ++ d) ≠ 0 ∨ (cluV c).length = 0 ∨ (cluV d).length = 0 ∨ (cluV (c ++ d)).length ≠ (cluV c).length + (cluV d).length ∨ tAt (cluV (c ++ d)) (((cluV c).length - 1 : Nat) : Int) ≠ tAt (cluV c) (((cluV c).length - 1 : Nat) : Int)) Ty.follows (by kernel_rfl) ?_ ?_
    · skip
      first | refine TD.run1 (pure_load Ty.agg23 rfl (.succ (.succ (.succ (.succ (.zero _)))))) rfl ?_ | refine TD.run1 (pure_load_own Ty.agg23 rfl (by repeat (first | exact List.Mem.head _ | apply List.Mem.tail)) (by repeat (first | exact DropR.zero _ | apply DropR.succ)) (.succ (.succ (.succ (.succ (.zero _)))))) rfl ?_
      refine TD.run1 (pure_call (check_spec f) (.cons rfl .nil) Tryd.call16) rfl ?_
      refine TD.run1 (pure_neq rfl rfl) rfl ?_
      refine TD.run1 (pure_move rfl) rfl ?_
      first | refine TD.splitP 50 rfl (fun hg50 => ?_) (fun hg50 => ?_) | refine TD.split 50 rfl (fun hg50 => ?_) (fun hg50 => ?_)
      · try dsimp only at hg50
        refine TD.passG rfl rfl rfl rfl ?_
        refine TD.passG rfl rfl rfl rfl ?_
        refine TD.run1 (pure_pick_true rfl rfl) rfl ?_
        refine TD.run1 (pure_move rfl) rfl ?_
        refine TD.passG rfl rfl rfl rfl ?_
        refine TD.passG rfl rfl rfl rfl ?_
        refine TD.run1 (pure_pick_true rfl rfl) rfl ?_
        refine TD.run1 (pure_move rfl) rfl ?_
        refine TD.passG rfl rfl rfl rfl ?_
        refine TD.passG rfl rfl rfl rfl ?_
        refine TD.run1 (pure_pick_true rfl rfl) rfl ?_
        refine TD.run1 (pure_move rfl) rfl ?_
        refine TD.passG rfl rfl rfl rfl ?_
        refine TD.passG rfl rfl rfl rfl ?_
        refine TD.passG rfl rfl rfl rfl ?_
        refine TD.run1 (pure_pick_true rfl rfl) rfl ?_
        refine TD.run1 (pure_move rfl) rfl ?_
        refine TD.passG rfl rfl rfl rfl ?_
        refine TD.passG rfl rfl rfl rfl ?_
        refine TD.passG rfl rfl rfl rfl ?_
        refine TD.run1 (pure_pick_true rfl rfl) rfl ?_
        refine TD.run1 (pure_move rfl) rfl ?_
        refine TD.passG rfl rfl rfl rfl ?_
        refine TD.passG rfl rfl rfl rfl ?_
        refine TD.passG rfl rfl rfl rfl ?_
        refine TD.passG rfl rfl rfl rfl ?_
        refine TD.passG rfl rfl rfl rfl ?_
        refine TD.passG rfl rfl rfl rfl ?_
        refine TD.passG rfl rfl rfl rfl ?_
        refine TD.passG rfl rfl rfl rfl ?_
        refine TD.run1 (pure_pick_true rfl rfl) rfl ?_
        refine TD.run1 (pure_move rfl) rfl ?_
        refine TD.passG rfl rfl rfl rfl ?_
        refine TD.passG rfl rfl rfl rfl ?_
        refine TD.passG rfl rfl rfl rfl ?_
        refine TD.passG rfl rfl rfl rfl ?_
        refine TD.passG rfl rfl rfl rfl ?_
        refine TD.passG rfl rfl rfl rfl ?_
        refine TD.passG rfl rfl rfl rfl ?_
        refine TD.passG rfl rfl rfl rfl ?_
        refine TD.passG rfl rfl rfl rfl ?_
        refine TD.passG rfl rfl rfl rfl ?_
        refine TD.passG rfl rfl rfl rfl ?_
        refine TD.passG rfl rfl rfl rfl ?_
        refine TD.passG rfl rfl rfl rfl ?_
        refine TD.run1 (pure_pick_true rfl rfl) rfl ?_
        refine TD.cutEnd (by repeat (first | exact Same.refl _ _ | refine Same.put rfl ?_)) rfl ?_
        first | (simp_all; done) | (simp only [decide_eq_true_eq, Bool.false_eq_true, false_iff, true_iff, iff_true, iff_false] at *; omega) | (simp_all; omega) | grind
      · try dsimp only at hg50
        refine TD.runG rfl rfl (pure_move rfl) rfl ?_
        refine TD.runG rfl rfl (pure_neq rfl rfl) rfl ?_
        refine TD.run1 (pure_pick_false rfl rfl) rfl ?_
        refine TD.run1 (pure_move rfl) rfl ?_
        first | refine TD.splitP 54 rfl (fun hg54 => ?_) (fun hg54 => ?_) | refine TD.split 54 rfl (fun hg54 => ?_) (fun hg54 => ?_)
        · try dsimp only at hg54
          refine TD.passG rfl rfl rfl rfl ?_
          refine TD.passG rfl rfl rfl rfl ?_
          refine TD.run1 (pure_pick_true rfl rfl) rfl ?_
          refine TD.run1 (pure_move rfl) rfl ?_
          refine TD.passG rfl rfl rfl rfl ?_
          refine TD.passG rfl rfl rfl rfl ?_
          refine TD.run1 (pure_pick_true rfl rfl) rfl ?_
          refine TD.run1 (pure_move rfl) rfl ?_
          refine TD.passG rfl rfl rfl rfl ?_
          refine TD.passG rfl rfl rfl rfl ?_
          refine TD.passG rfl rfl rfl rfl ?_
          refine TD.run1 (pure_pick_true rfl rfl) rfl ?_
          refine TD.run1 (pure_move rfl) rfl ?_
          refine TD.passG rfl rfl rfl rfl ?_
          refine TD.passG rfl rfl rfl rfl ?_
          refine TD.passG rfl rfl rfl rfl ?_
          refine TD.run1 (pure_pick_true rfl rfl) rfl ?_
          refine TD.run1 (pure_move rfl) rfl ?_
          refine TD.passG rfl rfl rfl rfl ?_
          refine TD.passG rfl rfl rfl rfl ?_
          refine TD.passG rfl rfl rfl rfl ?_
          refine TD.passG rfl rfl rfl rfl ?_
          refine TD.passG rfl rfl rfl rfl ?_
          refine TD.passG rfl rfl rfl rfl ?_
          refine TD.passG rfl rfl rfl rfl ?_
          refine TD.passG rfl rfl rfl rfl ?_
          refine TD.run1 (pure_pick_true rfl rfl) rfl ?_
          refine TD.run1 (pure_move rfl) rfl ?_
          refine TD.passG rfl rfl rfl rfl ?_
          refine TD.passG rfl rfl rfl rfl ?_
          refine TD.passG rfl rfl rfl rfl ?_
          refine TD.passG rfl rfl rfl rfl ?_
          refine TD.passG rfl rfl rfl rfl ?_
          refine TD.passG rfl rfl rfl rfl ?_
          refine TD.passG rfl rfl rfl rfl ?_
          refine TD.passG rfl rfl rfl rfl ?_
          refine TD.passG rfl rfl rfl rfl ?_
          refine TD.passG rfl rfl rfl rfl ?_
          refine TD.passG rfl rfl rfl rfl ?_
          refine TD.passG rfl rfl rfl rfl ?_
          refine TD.passG rfl rfl rfl rfl ?_
          refine TD.run1 (pure_pick_true rfl rfl) rfl ?_
          refine TD.cutEnd (by repeat (first | exact Same.refl _ _ | refine Same.put rfl ?_)) rfl ?_
          first | (simp_all; done) | (simp only [decide_eq_true_eq, Bool.false_eq_true, false_iff, true_iff, iff_true, iff_false] at *; omega) | (simp_all; omega) | grind
        · try dsimp only at hg54
          refine TD.runG rfl rfl (pure_move rfl) rfl ?_
          refine TD.runG rfl rfl (pure_neq rfl rfl) rfl ?_
          refine TD.run1 (pure_pick_false rfl rfl) rfl ?_
          refine TD.run1 (pure_move rfl) rfl ?_
          first | refine TD.splitP 58 rfl (fun hg58 => ?_) (fun hg58 => ?_) | refine TD.split 58 rfl (fun hg58 => ?_) (fun hg58 => ?_)
          · try dsimp only at hg58
            refine TD.passG rfl rfl rfl rfl ?_
            refine TD.passG rfl rfl rfl rfl ?_
            refine TD.run1 (pure_pick_true rfl rfl) rfl ?_
            refine TD.run1 (pure_move rfl) rfl ?_
            refine TD.passG rfl rfl rfl rfl ?_
            refine TD.passG rfl rfl rfl rfl ?_
            refine TD.passG rfl rfl rfl rfl ?_
            refine TD.run1 (pure_pick_true rfl rfl) rfl ?_
            refine TD.run1 (pure_move rfl) rfl ?_
            refine TD.passG rfl rfl rfl rfl ?_
            refine TD.passG rfl rfl rfl rfl ?_
            refine TD.passG rfl rfl rfl rfl ?_
            refine TD.run1 (pure_pick_true rfl rfl) rfl ?_
            refine TD.run1 (pure_move rfl) rfl ?_
            refine TD.passG rfl rfl rfl rfl ?_
            refine TD.passG rfl rfl rfl rfl ?_
            refine TD.passG rfl rfl rfl rfl ?_
            refine TD.passG rfl rfl rfl rfl ?_
            refine TD.passG rfl rfl rfl rfl ?_
            refine TD.passG rfl rfl rfl rfl ?_
            refine TD.passG rfl rfl rfl rfl ?_
            refine TD.passG rfl rfl rfl rfl ?_
            refine TD.run1 (pure_pick_true rfl rfl) rfl ?_
            refine TD.run1 (pure_move rfl) rfl ?_
            refine TD.passG rfl rfl rfl rfl ?_
            refine TD.passG rfl rfl rfl rfl ?_
            refine TD.passG rfl rfl rfl rfl ?_
            refine TD.passG rfl rfl rfl rfl ?_
            refine TD.passG rfl rfl rfl rfl ?_
            refine TD.passG rfl rfl rfl rfl ?_
            refine TD.passG rfl rfl rfl rfl ?_
            refine TD.passG rfl rfl rfl rfl ?_
            refine TD.passG rfl rfl rfl rfl ?_
            refine TD.passG rfl rfl rfl rfl ?_
            refine TD.passG rfl rfl rfl rfl ?_
            refine TD.passG rfl rfl rfl rfl ?_
            refine TD.passG rfl rfl rfl rfl ?_
            refine TD.run1 (pure_pick_true rfl rfl) rfl ?_
            refine TD.cutEnd (by repeat (first | exact Same.refl _ _ | refine Same.put rfl ?_)) rfl ?_
            first | (simp_all; done) | (simp only [decide_eq_true_eq, Bool.false_eq_true, false_iff, true_iff, iff_true, iff_false] at *; omega) | (simp_all; omega) | grind
          · try dsimp only at hg58
            refine TD.runG rfl rfl (pure_move rfl) rfl ?_
            refine TD.runG rfl rfl (pure_neq rfl rfl) rfl ?_
            refine TD.run1 (pure_pick_false rfl rfl) rfl ?_
            refine TD.run1 (pure_move rfl) rfl ?_
            first | refine TD.splitP 62 rfl (fun hg62 => ?_) (fun hg62 => ?_) | refine TD.split 62 rfl (fun hg62 => ?_) (fun hg62 => ?_)
            · try dsimp only at hg62
              refine TD.passG rfl rfl rfl rfl ?_
              refine TD.passG rfl rfl rfl rfl ?_
              refine TD.passG rfl rfl rfl rfl ?_
              refine TD.run1 (pure_pick_true rfl rfl) rfl ?_
              refine TD.run1 (pure_move rfl) rfl ?_
              refine TD.passG rfl rfl rfl rfl ?_
              refine TD.passG rfl rfl rfl rfl ?_
              refine TD.passG rfl rfl rfl rfl ?_
              refine TD.run1 (pure_pick_true rfl rfl) rfl ?_
              refine TD.run1 (pure_move rfl) rfl ?_
              refine TD.passG rfl rfl rfl rfl ?_
              refine TD.passG rfl rfl rfl rfl ?_
              refine TD.passG rfl rfl rfl rfl ?_
              refine TD.passG rfl rfl rfl rfl ?_
              refine TD.passG rfl rfl rfl rfl ?_
              refine TD.passG rfl rfl rfl rfl ?_
              refine TD.passG rfl rfl rfl rfl ?_
              refine TD.passG rfl rfl rfl rfl ?_
              refine TD.run1 (pure_pick_true rfl rfl) rfl ?_
              refine TD.run1 (pure_move rfl) rfl ?_
              refine TD.passG rfl rfl rfl rfl ?_
              refine TD.passG rfl rfl rfl rfl ?_
              refine TD.passG rfl rfl rfl rfl ?_
              refine TD.passG rfl rfl rfl rfl ?_
              refine TD.passG rfl rfl rfl rfl ?_
              refine TD.passG rfl rfl rfl rfl ?_
              refine TD.passG rfl rfl rfl rfl ?_
              refine TD.passG rfl rfl rfl rfl ?_
              refine TD.passG rfl rfl rfl rfl ?_
              refine TD.passG rfl rfl rfl rfl ?_
              refine TD.passG rfl rfl rfl rfl ?_
              refine TD.passG rfl rfl rfl rfl ?_
              refine TD.passG rfl rfl rfl rfl ?_
              refine TD.run1 (pure_pick_true rfl rfl) rfl ?_
              refine TD.cutEnd (by repeat (first | exact Same.refl _ _ | refine Same.put rfl ?_)) rfl ?_
              first | (simp_all; done) | (simp only [decide_eq_true_eq, Bool.false_eq_true, false_iff, true_iff, iff_true, iff_false] at *; omega) | (simp_all; omega) | grind
            · try dsimp only at hg62
              refine TD.runG rfl rfl (pure_move rfl) rfl ?_
              first | refine TD.runG rfl rfl (pure_len Ty.sl29 rfl) rfl ?_ | refine TD.runG rfl rfl (pure_len_row Ty.sl29 rfl (by repeat (first | exact List.Mem.head _ | apply List.Mem.tail))) rfl ?_ | refine TD.runG rfl rfl (pure_len_nil Ty.sl29 rfl) rfl ?_
              refine TD.runG rfl rfl (pure_eql rfl rfl) rfl ?_
              refine TD.run1 (pure_pick_false rfl rfl) rfl ?_
              refine TD.run1 (pure_move rfl) rfl ?_
              first | refine TD.splitP 67 rfl (fun hg67 => ?_) (fun hg67 => ?_) | refine TD.split 67 rfl (fun hg67 => ?_) (fun hg67 => ?_)
              · try dsimp only at hg67
                refine TD.passG rfl rfl rfl rfl ?_
                refine TD.passG rfl rfl rfl rfl ?_
                refine TD.passG rfl rfl rfl rfl ?_
                refine TD.run1 (pure_pick_true rfl rfl) rfl ?_
                refine TD.run1 (pure_move rfl) rfl ?_
                refine TD.passG rfl rfl rfl rfl ?_
                refine TD.passG rfl rfl rfl rfl ?_
                refine TD.passG rfl rfl rfl rfl ?_
                refine TD.passG rfl rfl rfl rfl ?_
                refine TD.passG rfl rfl rfl rfl ?_
                refine TD.passG rfl rfl rfl rfl ?_
                refine TD.passG rfl rfl rfl rfl ?_
                refine TD.passG rfl rfl rfl rfl ?_
                refine TD.run1 (pure_pick_true rfl rfl) rfl ?_
                refine TD.run1 (pure_move rfl) rfl ?_
                refine TD.passG rfl rfl rfl rfl ?_
                refine TD.passG rfl rfl rfl rfl ?_
                refine TD.passG rfl rfl rfl rfl ?_
                refine TD.passG rfl rfl rfl rfl ?_
                refine TD.passG rfl rfl rfl rfl ?_
                refine TD.passG rfl rfl rfl rfl ?_
                refine TD.passG rfl rfl rfl rfl ?_
                refine TD.passG rfl rfl rfl rfl ?_
                refine TD.passG rfl rfl rfl rfl ?_
                refine TD.passG rfl rfl rfl rfl ?_
                refine TD.passG rfl rfl rfl rfl ?_
                refine TD.passG rfl rfl rfl rfl ?_
                refine TD.passG rfl rfl rfl rfl ?_
                refine TD.run1 (pure_pick_true rfl rfl) rfl ?_
                refine TD.cutEnd (by repeat (first | exact Same.refl _ _ | refine Same.put rfl ?_)) rfl ?_
                first | (simp_all; done) | (simp only [decide_eq_true_eq, Bool.false_eq_true, false_iff, true_iff, iff_true, iff_false] at *; omega) | (simp_all; omega) | grind
              · try dsimp only at hg67
                refine TD.runG rfl rfl (pure_move rfl) rfl ?_
                first | refine TD.runG rfl rfl (pure_len Ty.sl29 rfl) rfl ?_ | refine TD.runG rfl rfl (pure_len_row Ty.sl29 rfl (by repeat (first | exact List.Mem.head _ | apply List.Mem.tail))) rfl ?_ | refine TD.runG rfl rfl (pure_len_nil Ty.sl29 rfl) rfl ?_
                refine TD.runG rfl rfl (pure_eql rfl rfl) rfl ?_
                refine TD.run1 (pure_pick_false rfl rfl) rfl ?_
                refine TD.run1 (pure_move rfl) rfl ?_
                first | refine TD.splitP 72 rfl (fun hg72 => ?_) (fun hg72 => ?_) | refine TD.split 72 rfl (fun hg72 => ?_) (fun hg72 => ?_)
                · try dsimp only at hg72
                  refine TD.passG rfl rfl rfl rfl ?_
                  refine TD.passG rfl rfl rfl rfl ?_
                  refine TD.passG rfl rfl rfl rfl ?_
                  refine TD.passG rfl rfl rfl rfl ?_
                  refine TD.passG rfl rfl rfl rfl ?_
                  refine TD.passG rfl rfl rfl rfl ?_
                  refine TD.passG rfl rfl rfl rfl ?_
                  refine TD.passG rfl rfl rfl rfl ?_
                  refine TD.run1 (pure_pick_true rfl rfl) rfl ?_
                  refine TD.run1 (pure_move rfl) rfl ?_
                  refine TD.passG rfl rfl rfl rfl ?_
                  refine TD.passG rfl rfl rfl rfl ?_
                  refine TD.passG rfl rfl rfl rfl ?_
                  refine TD.passG rfl rfl rfl rfl ?_
                  refine TD.passG rfl rfl rfl rfl ?_
                  refine TD.passG rfl rfl rfl rfl ?_
                  refine TD.passG rfl rfl rfl rfl ?_
                  refine TD.passG rfl rfl rfl rfl ?_
                  refine TD.passG rfl rfl rfl rfl ?_
                  refine TD.passG rfl rfl rfl rfl ?_
                  refine TD.passG rfl rfl rfl rfl ?_
                  refine TD.passG rfl rfl rfl rfl ?_
                  refine TD.passG rfl rfl rfl rfl ?_
                  refine TD.run1 (pure_pick_true rfl rfl) rfl ?_
                  refine TD.cutEnd (by repeat (first | exact Same.refl _ _ | refine Same.put rfl ?_)) rfl ?_
                  first | (simp_all; done) | (simp only [decide_eq_true_eq, Bool.false_eq_true, false_iff, true_iff, iff_true, iff_false] at *; omega) | (simp_all; omega) | grind
                · try dsimp only at hg72
                  refine TD.runG rfl rfl (pure_move rfl) rfl ?_
                  first | refine TD.runG rfl rfl (pure_len Ty.sl29 rfl) rfl ?_ | refine TD.runG rfl rfl (pure_len_row Ty.sl29 rfl (by repeat (first | exact List.Mem.head _ | apply List.Mem.tail))) rfl ?_ | refine TD.runG rfl rfl (pure_len_nil Ty.sl29 rfl) rfl ?_
                  refine TD.runG rfl rfl (pure_move rfl) rfl ?_
                  first | refine TD.runG rfl rfl (pure_len Ty.sl29 rfl) rfl ?_ | refine TD.runG rfl rfl (pure_len_row Ty.sl29 rfl (by repeat (first | exact List.Mem.head _ | apply List.Mem.tail))) rfl ?_ | refine TD.runG rfl rfl (pure_len_nil Ty.sl29 rfl) rfl ?_
                  refine TD.runG rfl rfl (pure_move rfl) rfl ?_
                  first | refine TD.runG rfl rfl (pure_len Ty.sl29 rfl) rfl ?_ | refine TD.runG rfl rfl (pure_len_row Ty.sl29 rfl (by repeat (first | exact List.Mem.head _ | apply List.Mem.tail))) rfl ?_ | refine TD.runG rfl rfl (pure_len_nil Ty.sl29 rfl) rfl ?_
                  refine TD.runG rfl rfl (pure_add rfl rfl (mkI64 (by omega) (by omega))) rfl ?_
                  refine TD.runG rfl rfl (pure_neq rfl rfl) rfl ?_
                  refine TD.run1 (pure_pick_false rfl rfl) rfl ?_
                  refine TD.run1 (pure_move rfl) rfl ?_
                  first | refine TD.splitP 82 rfl (fun hg82 => ?_) (fun hg82 => ?_) | refine TD.split 82 rfl (fun hg82 => ?_) (fun hg82 => ?_)
                  · try dsimp only at hg82
                    refine TD.passG rfl rfl rfl rfl ?_
                    refine TD.passG rfl rfl rfl rfl ?_
                    refine TD.passG rfl rfl rfl rfl ?_
                    refine TD.passG rfl rfl rfl rfl ?_
                    refine TD.passG rfl rfl rfl rfl ?_
                    refine TD.passG rfl rfl rfl rfl ?_
                    refine TD.passG rfl rfl rfl rfl ?_
                    refine TD.passG rfl rfl rfl rfl ?_
                    refine TD.passG rfl rfl rfl rfl ?_
                    refine TD.passG rfl rfl rfl rfl ?_
                    refine TD.passG rfl rfl rfl rfl ?_
                    refine TD.passG rfl rfl rfl rfl ?_
                    refine TD.passG rfl rfl rfl rfl ?_
                    refine TD.run1 (pure_pick_true rfl rfl) rfl ?_
                    refine TD.cutEnd (by repeat (first | exact Same.refl _ _ | refine Same.put rfl ?_)) rfl ?_
                    first | (simp_all; done) | (simp only [decide_eq_true_eq, Bool.false_eq_true, false_iff, true_iff, iff_true, iff_false] at *; omega) | (simp_all; omega) | grind
                  · try dsimp only at hg82
                    have hl0 : (cluV c).length ≠ 0 ∧ (cluV (c ++ d)).length = (cluV c).length + (cluV d).length := by (simp_all <;> omega)
                    have hrx : (encT (cluV c))[(((encT (cluV c)).length : Int) - 1).toNat]? = some [.v (.string (tAt (cluV c) (((cluV c).length - 1 : Nat) : Int)))] := by (rw [l1, show (((cluV c).length : Nat) : Int) - 1 = (((cluV c).length - 1 : Nat) : Int) by omega]; exact encT_get (cluV c) (((cluV c).length - 1 : Nat) : Int) (by omega) (by omega))
                    have hrz : (encT (cluV (c ++ d)))[(((encT (cluV c)).length : Int) - 1).toNat]? = some [.v (.string (tAt (cluV (c ++ d)) (((cluV c).length - 1 : Nat) : Int)))] := by (rw [l1, show (((cluV c).length : Nat) : Int) - 1 = (((cluV c).length - 1 : Nat) : Int) by omega]; exact encT_get (cluV (c ++ d)) (((cluV c).length - 1 : Nat) : Int) (by omega) (by omega))
                    refine TD.runG rfl rfl (pure_move rfl) rfl ?_
                    refine TD.runG rfl rfl (pure_move rfl) rfl ?_
                    first | refine TD.runG rfl rfl (pure_len Ty.sl29 rfl) rfl ?_ | refine TD.runG rfl rfl (pure_len_row Ty.sl29 rfl (by repeat (first | exact List.Mem.head _ | apply List.Mem.tail))) rfl ?_ | refine TD.runG rfl rfl (pure_len_nil Ty.sl29 rfl) rfl ?_
                    refine TD.runG rfl rfl (pure_sub rfl rfl (mkI64 (by omega) (by omega))) rfl ?_
                    refine TD.runG rfl rfl (pure_indexAddr Ty.sl29 rfl rfl (by omega) hrz (List.cons_ne_nil _ _)) rfl ?_
                    first | refine TD.runG rfl rfl (pure_load1 Ty.one9 rfl) rfl ?_ | refine TD.runG rfl rfl (pure_load1_own Ty.one9 rfl (by repeat (first | exact List.Mem.head _ | apply List.Mem.tail)) (by repeat (first | exact DropR.zero _ | apply DropR.succ))) rfl ?_
                    refine TD.runG rfl rfl (pure_move rfl) rfl ?_
                    refine TD.runG rfl rfl (pure_move rfl) rfl ?_
                    first | refine TD.runG rfl rfl (pure_len Ty.sl29 rfl) rfl ?_ | refine TD.runG rfl rfl (pure_len_row Ty.sl29 rfl (by repeat (first | exact List.Mem.head _ | apply List.Mem.tail))) rfl ?_ | refine TD.runG rfl rfl (pure_len_nil Ty.sl29 rfl) rfl ?_
                    refine TD.runG rfl rfl (pure_sub rfl rfl (mkI64 (by omega) (by omega))) rfl ?_
                    refine TD.runG rfl rfl (pure_indexAddr Ty.sl29 rfl rfl (by omega) hrx (List.cons_ne_nil _ _)) rfl ?_
                    first | refine TD.runG rfl rfl (pure_load1 Ty.one9 rfl) rfl ?_ | refine TD.runG rfl rfl (pure_load1_own Ty.one9 rfl (by repeat (first | exact List.Mem.head _ | apply List.Mem.tail)) (by repeat (first | exact DropR.zero _ | apply DropR.succ))) rfl ?_
                    refine TD.runG rfl rfl (pure_neq_string rfl rfl) rfl ?_
                    refine TD.run1 (pure_pick_false rfl rfl) rfl ?_
                    refine TD.cutEnd (by repeat (first | exact Same.refl _ _ | refine Same.put rfl ?_)) rfl ?_
                    first | (simp_all; done) | (simp only [decide_eq_true_eq, Bool.false_eq_true, false_iff, true_iff, iff_true, iff_false] at *; omega) | (simp_all; omega) | grind
    first | refine TC.condD rfl (fun hc96 => ?_) (fun hc96 => ?_) | refine TC.condN rfl (fun hc96 => ?_) (fun hc96 => ?_) | refine TC.cond rfl (fun hc96 => ?_) (fun hc96 => ?_)
    · try dsimp only at hc96
      refine TC.seq ?_
      refine TC.region ?_
      refine TL.run1 (pure_assign rfl) rfl ?_
      refine TL.nil' ?_
      refine TC.ret ?_
      refine then_ret ?_
      exact ret_bool rfl (by simp)
    · try dsimp only at hc96
      refine TC.skip' ?_
      refine TC.seq ?_
      have hfb : ¬ FBad f := errF_not (fun h => hc96 (.inl h))
      have hoc := errU_good (fun h => hc96 (.inr (.inl h)))
      have hod := errU_good (fun h => hc96 (.inr (.inr (.inl h))))
      have hsp : Split c d := ⟨hoc, hod, fun h => hc96 (.inr (.inr (.inr (.inr (.inl h))))), fun h => hc96 (.inr (.inr (.inr (.inr (.inr (.inl h)))))), Decidable.not_not.1 (fun h => hc96 (.inr (.inr (.inr (.inr (.inr (.inr (.inl h)))))))), Decidable.not_not.1 (fun h => hc96 (.inr (.inr (.inr (.inr (.inr (.inr (.inr h))))))))⟩
      obtain ⟨hoab, hX1, hX2, hX3⟩ := adds_eq hfb hsp
      obtain ⟨_, _, n1, n2, n3, n4⟩ := hsp
      have hrx : (encT (cluV c))[(((encT (cluV c)).length : Int) - 1).toNat]? = some [.v (.string (tAt (cluV c) (((cluV c).length - 1 : Nat) : Int)))] := by (rw [l1, show (((cluV c).length : Nat) : Int) - 1 = (((cluV c).length - 1 : Nat) : Int) by omega]; exact encT_get (cluV c) (((cluV c).length - 1 : Nat) : Int) (by omega) (by omega))
      have hry : (encT (cluV d))[(0 : Int).toNat]? = some [.v (.string (tAt (cluV d) ((0 : Nat) : Int)))] := encT_get (cluV d) ((0 : Nat) : Int) (by omega) (by omega)
      have z1 := (clu_mem hoc (tAt_mem (cluV c) (((cluV c).length - 1 : Nat) : Int) (by omega) (by omega))).2.1
      have z2 := (clu_mem hod (tAt_mem (cluV d) ((0 : Nat) : Int) (by omega) (by omega))).2.1
      have k1 := chk_one hfb hoc
      have k2 := chk_one hfb hod
      have k3 := chk_one hfb hoab
      have k4 := chk_one (bad_raise hfb) hoab
      refine TC.draw Ty.follows (by kernel_rfl) ?_
      first | refine TD.run1 (pure_load Ty.agg23 rfl (.succ (.succ (.succ (.succ (.zero _)))))) rfl ?_ | refine TD.run1 (pure_load_own Ty.agg23 rfl (by repeat (first | exact List.Mem.head _ | apply List.Mem.tail)) (by repeat (first | exact DropR.zero _ | apply DropR.succ)) (.succ (.succ (.succ (.succ (.zero _)))))) rfl ?_
      refine TD.run1 (pure_move rfl) rfl ?_
      refine TD.run1 (pure_move rfl) rfl ?_
      first | refine TD.run1 (pure_len Ty.sl29 rfl) rfl ?_ | refine TD.run1 (pure_len_row Ty.sl29 rfl (by repeat (first | exact List.Mem.head _ | apply List.Mem.tail))) rfl ?_ | refine TD.run1 (pure_len_nil Ty.sl29 rfl) rfl ?_
      refine TD.run1 (pure_sub rfl rfl (mkI64 (by omega) (by omega))) rfl ?_
      refine TD.run1 (pure_indexAddr Ty.sl29 rfl rfl (by omega) hrx (List.cons_ne_nil _ _)) rfl ?_
      first | refine TD.run1 (pure_load1 Ty.one9 rfl) rfl ?_ | refine TD.run1 (pure_load1_own Ty.one9 rfl (by repeat (first | exact List.Mem.head _ | apply List.Mem.tail)) (by repeat (first | exact DropR.zero _ | apply DropR.succ))) rfl ?_
      refine TD.run1 (pure_move rfl) rfl ?_
      refine TD.run1 (pure_indexAddr Ty.sl29 rfl rfl (by omega) hry (List.cons_ne_nil _ _)) rfl ?_
      first | refine TD.run1 (pure_load1 Ty.one9 rfl) rfl ?_ | refine TD.run1 (pure_load1_own Ty.one9 rfl (by repeat (first | exact List.Mem.head _ | apply List.Mem.tail)) (by repeat (first | exact DropR.zero _ | apply DropR.succ))) rfl ?_
      refine TD.run1 (pure_call (Kern_spec f (tAt (cluV c) (((cluV c).length - 1 : Nat) : Int)) (tAt (cluV d) ((0 : Nat) : Int)) (by omega) (by omega)) (.cons rfl (.cons rfl (.cons rfl .nil))) Tryd.call22) rfl ?_
      refine TD.run1 (pure_move rfl) rfl ?_
      refine TD.run1 (pure_extract rfl rfl) rfl ?_
      refine TD.run1 (pure_extract rfl rfl) rfl ?_
      refine TD.run1 (pure_assign rfl) rfl ?_
      refine TD.run1 (pure_assign rfl) rfl ?_
      refine TD.nil' ?_
      refine TC.seq ?_
      refine TC.region ?_
      first | refine TL.run1 (pure_load Ty.agg23 rfl (.succ (.succ (.succ (.succ (.zero _)))))) rfl ?_ | refine TL.run1 (pure_load_own Ty.agg23 rfl (by repeat (first | exact List.Mem.head _ | apply List.Mem.tail)) (by repeat (first | exact DropR.zero _ | apply DropR.succ)) (.succ (.succ (.succ (.succ (.zero _)))))) rfl ?_
      refine TL.run1 (pure_move rfl) rfl ?_
      first | refine TL.run1 (pure_call (Text_spec f c (by omega)) (.cons rfl (.cons rfl .nil)) Tryd.call19) rfl ?_ | refine TL.run1 (pure_call (Text_spec f d (by omega)) (.cons rfl (.cons rfl .nil)) Tryd.call19) rfl ?_ | refine TL.run1 (pure_call (Text_spec f (c ++ d) (by omega)) (.cons rfl (.cons rfl .nil)) Tryd.call19) rfl ?_ | refine TL.run1 (pure_call (Text_spec ⟨f.face, f.size, 0, f.bold⟩ (c ++ d) (by omega)) (.cons rfl (.cons rfl .nil)) Tryd.call19) rfl ?_
      refine TL.run1 (pure_move rfl) rfl ?_
      refine TL.run1 (pure_extract rfl rfl) rfl ?_
      refine TL.run1 (pure_extract rfl rfl) rfl ?_
      refine TL.run1 (pure_assign rfl) rfl ?_
      refine TL.run1 (pure_assign rfl) rfl ?_
      refine TL.nil' ?_
      refine TC.seq ?_
      refine TC.region ?_
      first | refine TL.run1 (pure_load Ty.agg23 rfl (.succ (.succ (.succ (.succ (.zero _)))))) rfl ?_ | refine TL.run1 (pure_load_own Ty.agg23 rfl (by repeat (first | exact List.Mem.head _ | apply List.Mem.tail)) (by repeat (first | exact DropR.zero _ | apply DropR.succ)) (.succ (.succ (.succ (.succ (.zero _)))))) rfl ?_
      refine TL.run1 (pure_move rfl) rfl ?_
      first | refine TL.run1 (pure_call (Text_spec f c (by omega)) (.cons rfl (.cons rfl .nil)) Tryd.call19) rfl ?_ | refine TL.run1 (pure_call (Text_spec f d (by omega)) (.cons rfl (.cons rfl .nil)) Tryd.call19) rfl ?_ | refine TL.run1 (pure_call (Text_spec f (c ++ d) (by omega)) (.cons rfl (.cons rfl .nil)) Tryd.call19) rfl ?_ | refine TL.run1 (pure_call (Text_spec ⟨f.face, f.size, 0, f.bold⟩ (c ++ d) (by omega)) (.cons rfl (.cons rfl .nil)) Tryd.call19) rfl ?_
      refine TL.run1 (pure_move rfl) rfl ?_
      refine TL.run1 (pure_extract rfl rfl) rfl ?_
      refine TL.run1 (pure_extract rfl rfl) rfl ?_
      refine TL.run1 (pure_assign rfl) rfl ?_
      refine TL.run1 (pure_assign rfl) rfl ?_
      refine TL.nil' ?_
      refine TC.seq ?_
      refine TC.region ?_
      first | refine TL.run1 (pure_load Ty.agg23 rfl (.succ (.succ (.succ (.succ (.zero _)))))) rfl ?_ | refine TL.run1 (pure_load_own Ty.agg23 rfl (by repeat (first | exact List.Mem.head _ | apply List.Mem.tail)) (by repeat (first | exact DropR.zero _ | apply DropR.succ)) (.succ (.succ (.succ (.succ (.zero _)))))) rfl ?_
      refine TL.run1 (pure_move rfl) rfl ?_
      refine TL.run1 (pure_move rfl) rfl ?_
      refine TL.run1 (pure_add_string (a := c) (b := d) rfl rfl (by omega)) rfl ?_
      first | refine TL.run1 (pure_call (Text_spec f c (by omega)) (.cons rfl (.cons rfl .nil)) Tryd.call19) rfl ?_ | refine TL.run1 (pure_call (Text_spec f d (by omega)) (.cons rfl (.cons rfl .nil)) Tryd.call19) rfl ?_ | refine TL.run1 (pure_call (Text_spec f (c ++ d) (by omega)) (.cons rfl (.cons rfl .nil)) Tryd.call19) rfl ?_ | refine TL.run1 (pure_call (Text_spec ⟨f.face, f.size, 0, f.bold⟩ (c ++ d) (by omega)) (.cons rfl (.cons rfl .nil)) Tryd.call19) rfl ?_
      refine TL.run1 (pure_move rfl) rfl ?_
      refine TL.run1 (pure_extract rfl rfl) rfl ?_
      refine TL.run1 (pure_extract rfl rfl) rfl ?_
      refine TL.run1 (pure_assign rfl) rfl ?_
      refine TL.run1 (pure_assign rfl) rfl ?_
      refine TL.nil' ?_
      refine TC.seq ?_
      refine TC.region ?_
      first | refine TL.run1 (pure_load Ty.agg23 rfl (.succ (.succ (.succ (.succ (.zero _)))))) rfl ?_ | refine TL.run1 (pure_load_own Ty.agg23 rfl (by repeat (first | exact List.Mem.head _ | apply List.Mem.tail)) (by repeat (first | exact DropR.zero _ | apply DropR.succ)) (.succ (.succ (.succ (.succ (.zero _)))))) rfl ?_
      refine TL.alloc Ty.zero23 rfl (fun g21 => ?_)
      refine TL.store rfl rfl (.agg _) Tryd.sizeOf23 rfl (by repeat (first | exact UpdR.here _ | apply UpdR.there)) (by repeat (first | exact PutR.nil _ | apply PutR.here | apply PutR.skip)) ?_
      refine TL.nil' ?_
      refine TC.seq ?_
      refine TC.region ?_
      first | refine TL.run1 (pure_fieldAddr Ty.f23_2 rfl (.succ (.succ (.zero _))) (List.cons_ne_nil _ _)) rfl ?_ | refine TL.run1 (pure_fieldAddr_own Ty.f23_2 rfl) rfl ?_
      refine TL.store rfl rfl (.one (by first | rfl | assumption)) Tryd.sizeOf3 rfl (by repeat (first | exact UpdR.here _ | apply UpdR.there)) (by repeat (first | exact PutR.nil _ | apply PutR.here | apply PutR.skip)) ?_
      refine TL.nil' ?_
      refine TC.seq ?_
      refine TC.region ?_
      first | refine TL.run1 (pure_load Ty.agg23 rfl (.succ (.succ (.succ (.succ (.zero _)))))) rfl ?_ | refine TL.run1 (pure_load_own Ty.agg23 rfl (by repeat (first | exact List.Mem.head _ | apply List.Mem.tail)) (by repeat (first | exact DropR.zero _ | apply DropR.succ)) (.succ (.succ (.succ (.succ (.zero _)))))) rfl ?_
      refine TL.run1 (pure_move rfl) rfl ?_
      refine TL.run1 (pure_move rfl) rfl ?_
      refine TL.run1 (pure_add_string (a := c) (b := d) rfl rfl (by omega)) rfl ?_
      first | refine TL.run1 (pure_call (Text_spec f c (by omega)) (.cons rfl (.cons rfl .nil)) Tryd.call19) rfl ?_ | refine TL.run1 (pure_call (Text_spec f d (by omega)) (.cons rfl (.cons rfl .nil)) Tryd.call19) rfl ?_ | refine TL.run1 (pure_call (Text_spec f (c ++ d) (by omega)) (.cons rfl (.cons rfl .nil)) Tryd.call19) rfl ?_ | refine TL.run1 (pure_call (Text_spec ⟨f.face, f.size, 0, f.bold⟩ (c ++ d) (by omega)) (.cons rfl (.cons rfl .nil)) Tryd.call19) rfl ?_
      refine TL.run1 (pure_move rfl) rfl ?_
      refine TL.run1 (pure_extract rfl rfl) rfl ?_
      refine TL.run1 (pure_extract rfl rfl) rfl ?_
      refine TL.run1 (pure_assign rfl) rfl ?_
      refine TL.run1 (pure_assign rfl) rfl ?_
      refine TL.nil' ?_
      rw [hX3, k1, k2, k3, k4, hX2]
      have w1 := wS_range hfb (cluV c) (cluV c).length
      have w2 := wS_range hfb (cluV d) (cluV d).length
      have t1 := (vok (x := 0) k1).2.1
      have t2 := (vok (x := 0) k2).2.1
      have hkr := krP_range hfb (tAt (cluV c) (((cluV c).length - 1 : Nat) : Int)) (tAt (cluV d) ((0 : Nat) : Int))
      have hke : -32761 ≤ keV f (tAt (cluV c) (((cluV c).length - 1 : Nat) : Int)) (tAt (cluV d) ((0 : Nat) : Int)) ∧ keV f (tAt (cluV c) (((cluV c).length - 1 : Nat) : Int)) (tAt (cluV d) ((0 : Nat) : Int)) ≤ 0 := by (unfold keV; split <;> omega)
      refine TC.regionCut [141, 142, 143, 144, 145, 146, 147, 148, 149, 150, 151, 152, 153, 154, 155, 156, 157, 158, 159, 160, 161, 162, 163, 164, 165, 166, 167, 168, 169, 170, 171, 172, 6] 6 (True) ?_ ?_
      · skip
        refine TL.run1 (pure_move rfl) rfl ?_
        refine TL.run1 (pure_eql rfl rfl) rfl ?_
        refine TL.run1 (pure_move rfl) rfl ?_
        first | refine TL.splitP 143 rfl (fun hg143 => ?_) (fun hg143 => ?_) | refine TL.split 143 rfl (fun hg143 => ?_) (fun hg143 => ?_)
        · try dsimp only at hg143
          refine TL.runG rfl rfl (pure_move rfl) rfl ?_
          refine TL.runG rfl rfl (pure_eql rfl rfl) rfl ?_
          refine TL.run1 (pure_pick_true rfl rfl) rfl ?_
          refine TL.run1 (pure_move rfl) rfl ?_
          first | refine TL.splitP 147 rfl (fun hg147 => ?_) (fun hg147 => ?_) | refine TL.split 147 rfl (fun hg147 => ?_) (fun hg147 => ?_)
          · try dsimp only at hg147
            refine TL.runG rfl rfl (pure_move rfl) rfl ?_
            refine TL.runG rfl rfl (pure_eql rfl rfl) rfl ?_
            refine TL.run1 (pure_pick_true rfl rfl) rfl ?_
            refine TL.run1 (pure_move rfl) rfl ?_
            first | refine TL.splitP 151 rfl (fun hg151 => ?_) (fun hg151 => ?_) | refine TL.split 151 rfl (fun hg151 => ?_) (fun hg151 => ?_)
            · try dsimp only at hg151
              refine TL.runG rfl rfl (pure_move rfl) rfl ?_
              refine TL.runG rfl rfl (pure_eql rfl rfl) rfl ?_
              refine TL.run1 (pure_pick_true rfl rfl) rfl ?_
              refine TL.run1 (pure_move rfl) rfl ?_
              first | refine TL.splitP 155 rfl (fun hg155 => ?_) (fun hg155 => ?_) | refine TL.split 155 rfl (fun hg155 => ?_) (fun hg155 => ?_)
              · try dsimp only at hg155
                refine TL.runG rfl rfl (pure_move rfl) rfl ?_
                refine TL.runG rfl rfl (pure_eql rfl rfl) rfl ?_
                refine TL.run1 (pure_pick_true rfl rfl) rfl ?_
                refine TL.run1 (pure_move rfl) rfl ?_
                first | refine TL.splitP 159 rfl (fun hg159 => ?_) (fun hg159 => ?_) | refine TL.split 159 rfl (fun hg159 => ?_) (fun hg159 => ?_)
                · try dsimp only at hg159
                  refine TL.runG rfl rfl (pure_move rfl) rfl ?_
                  refine TL.runG rfl rfl (pure_move rfl) rfl ?_
                  refine TL.runG rfl rfl (pure_move rfl) rfl ?_
                  refine TL.runG rfl rfl (pure_add rfl rfl (mkI64 (by omega) (by omega))) rfl ?_
                  refine TL.runG rfl rfl (pure_move rfl) rfl ?_
                  refine TL.runG rfl rfl (pure_add rfl rfl (mkI64 (by omega) (by omega))) rfl ?_
                  refine TL.runG rfl rfl (pure_eql rfl rfl) rfl ?_
                  refine TL.run1 (pure_pick_true rfl rfl) rfl ?_
                  refine TL.run1 (pure_move rfl) rfl ?_
                  first | refine TL.splitP 168 rfl (fun hg168 => ?_) (fun hg168 => ?_) | refine TL.split 168 rfl (fun hg168 => ?_) (fun hg168 => ?_)
                  · try dsimp only at hg168
                    refine TL.runG rfl rfl (pure_move rfl) rfl ?_
                    refine TL.runG rfl rfl (pure_move rfl) rfl ?_
                    refine TL.runG rfl rfl (pure_eql rfl rfl) rfl ?_
                    refine TL.run1 (pure_pick_true rfl rfl) rfl ?_
                    refine TL.run1 (pure_assign rfl) rfl ?_
                    refine TL.cutEnd (by repeat (first | exact Same.refl _ _ | refine Same.put rfl ?_)) rfl ?_
                    first | (simp only [hX1, decide_eq_true_eq, iff_true, true_iff]; done) | (simp_all; done) | (simp_all; omega) | grind
                  · try dsimp only at hg168
                    refine TL.passG rfl rfl rfl rfl ?_
                    refine TL.passG rfl rfl rfl rfl ?_
                    refine TL.passG rfl rfl rfl rfl ?_
                    refine TL.run1 (pure_pick_false rfl rfl) rfl ?_
                    refine TL.run1 (pure_assign rfl) rfl ?_
                    refine TL.cutEnd (by repeat (first | exact Same.refl _ _ | refine Same.put rfl ?_)) rfl ?_
                    first | (simp only [hX1, decide_eq_true_eq, iff_true, true_iff]; done) | (simp_all; done) | (simp_all; omega) | grind
                · try dsimp only at hg159
                  refine TL.passG rfl rfl rfl rfl ?_
                  refine TL.passG rfl rfl rfl rfl ?_
                  refine TL.passG rfl rfl rfl rfl ?_
                  refine TL.passG rfl rfl rfl rfl ?_
                  refine TL.passG rfl rfl rfl rfl ?_
                  refine TL.passG rfl rfl rfl rfl ?_
                  refine TL.passG rfl rfl rfl rfl ?_
                  refine TL.run1 (pure_pick_false rfl rfl) rfl ?_
                  refine TL.run1 (pure_move rfl) rfl ?_
                  refine TL.passG rfl rfl rfl rfl ?_
                  refine TL.passG rfl rfl rfl rfl ?_
                  refine TL.passG rfl rfl rfl rfl ?_
                  refine TL.run1 (pure_pick_false rfl rfl) rfl ?_
                  refine TL.run1 (pure_assign rfl) rfl ?_
                  refine TL.cutEnd (by repeat (first | exact Same.refl _ _ | refine Same.put rfl ?_)) rfl ?_
                  first | (simp only [hX1, decide_eq_true_eq, iff_true, true_iff]; done) | (simp_all; done) | (simp_all; omega) | grind
              · try dsimp only at hg155
                refine TL.passG rfl rfl rfl rfl ?_
                refine TL.passG rfl rfl rfl rfl ?_
                refine TL.run1 (pure_pick_false rfl rfl) rfl ?_
                refine TL.run1 (pure_move rfl) rfl ?_
                refine TL.passG rfl rfl rfl rfl ?_
                refine TL.passG rfl rfl rfl rfl ?_
                refine TL.passG rfl rfl rfl rfl ?_
                refine TL.passG rfl rfl rfl rfl ?_
                refine TL.passG rfl rfl rfl rfl ?_
                refine TL.passG rfl rfl rfl rfl ?_
                refine TL.passG rfl rfl rfl rfl ?_
                refine TL.run1 (pure_pick_false rfl rfl) rfl ?_
                refine TL.run1 (pure_move rfl) rfl ?_
                refine TL.passG rfl rfl rfl rfl ?_
                refine TL.passG rfl rfl rfl rfl ?_
                refine TL.passG rfl rfl rfl rfl ?_
                refine TL.run1 (pure_pick_false rfl rfl) rfl ?_
                refine TL.run1 (pure_assign rfl) rfl ?_
                refine TL.cutEnd (by repeat (first | exact Same.refl _ _ | refine Same.put rfl ?_)) rfl ?_
                first | (simp only [hX1, decide_eq_true_eq, iff_true, true_iff]; done) | (simp_all; done) | (simp_all; omega) | grind
            · try dsimp only at hg151
              refine TL.passG rfl rfl rfl rfl ?_
              refine TL.passG rfl rfl rfl rfl ?_
              refine TL.run1 (pure_pick_false rfl rfl) rfl ?_
              refine TL.run1 (pure_move rfl) rfl ?_
              refine TL.passG rfl rfl rfl rfl ?_
              refine TL.passG rfl rfl rfl rfl ?_
              refine TL.run1 (pure_pick_false rfl rfl) rfl ?_
              refine TL.run1 (pure_move rfl) rfl ?_
              refine TL.passG rfl rfl rfl rfl ?_
              refine TL.passG rfl rfl rfl rfl ?_
              refine TL.passG rfl rfl rfl rfl ?_
              refine TL.passG rfl rfl rfl rfl ?_
              refine TL.passG rfl rfl rfl rfl ?_
              refine TL.passG rfl rfl rfl rfl ?_
              refine TL.passG rfl rfl rfl rfl ?_
              refine TL.run1 (pure_pick_false rfl rfl) rfl ?_
              refine TL.run1 (pure_move rfl) rfl ?_
              refine TL.passG rfl rfl rfl rfl ?_
              refine TL.passG rfl rfl rfl rfl ?_
              refine TL.passG rfl rfl rfl rfl ?_
              refine TL.run1 (pure_pick_false rfl rfl) rfl ?_
              refine TL.run1 (pure_assign rfl) rfl ?_
              refine TL.cutEnd (by repeat (first | exact Same.refl _ _ | refine Same.put rfl ?_)) rfl ?_
              first | (simp only [hX1, decide_eq_true_eq, iff_true, true_iff]; done) | (simp_all; done) | (simp_all; omega) | grind
          · try dsimp only at hg147
            refine TL.passG rfl rfl rfl rfl ?_
            refine TL.passG rfl rfl rfl rfl ?_
            refine TL.run1 (pure_pick_false rfl rfl) rfl ?_
            refine TL.run1 (pure_move rfl) rfl ?_
            refine TL.passG rfl rfl rfl rfl ?_
            refine TL.passG rfl rfl rfl rfl ?_
            refine TL.run1 (pure_pick_false rfl rfl) rfl ?_
            refine TL.run1 (pure_move rfl) rfl ?_
            refine TL.passG rfl rfl rfl rfl ?_
            refine TL.passG rfl rfl rfl rfl ?_
            refine TL.run1 (pure_pick_false rfl rfl) rfl ?_
            refine TL.run1 (pure_move rfl) rfl ?_
            refine TL.passG rfl rfl rfl rfl ?_
            refine TL.passG rfl rfl rfl rfl ?_
            refine TL.passG rfl rfl rfl rfl ?_
            refine TL.passG rfl rfl rfl rfl ?_
            refine TL.passG rfl rfl rfl rfl ?_
            refine TL.passG rfl rfl rfl rfl ?_
            refine TL.passG rfl rfl rfl rfl ?_
            refine TL.run1 (pure_pick_false rfl rfl) rfl ?_
            refine TL.run1 (pure_move rfl) rfl ?_
            refine TL.passG rfl rfl rfl rfl ?_
            refine TL.passG rfl rfl rfl rfl ?_
            refine TL.passG rfl rfl rfl rfl ?_
            refine TL.run1 (pure_pick_false rfl rfl) rfl ?_
            refine TL.run1 (pure_assign rfl) rfl ?_
            refine TL.cutEnd (by repeat (first | exact Same.refl _ _ | refine Same.put rfl ?_)) rfl ?_
            first | (simp only [hX1, decide_eq_true_eq, iff_true, true_iff]; done) | (simp_all; done) | (simp_all; omega) | grind
        · try dsimp only at hg143
          refine TL.passG rfl rfl rfl rfl ?_
          refine TL.passG rfl rfl rfl rfl ?_
          refine TL.run1 (pure_pick_false rfl rfl) rfl ?_
          refine TL.run1 (pure_move rfl) rfl ?_
          refine TL.passG rfl rfl rfl rfl ?_
          refine TL.passG rfl rfl rfl rfl ?_
          refine TL.run1 (pure_pick_false rfl rfl) rfl ?_
          refine TL.run1 (pure_move rfl) rfl ?_
          refine TL.passG rfl rfl rfl rfl ?_
          refine TL.passG rfl rfl rfl rfl ?_
          refine TL.run1 (pure_pick_false rfl rfl) rfl ?_
          refine TL.run1 (pure_move rfl) rfl ?_
          refine TL.passG rfl rfl rfl rfl ?_
          refine TL.passG rfl rfl rfl rfl ?_
          refine TL.run1 (pure_pick_false rfl rfl) rfl ?_
          refine TL.run1 (pure_move rfl) rfl ?_
          refine TL.passG rfl rfl rfl rfl ?_
          refine TL.passG rfl rfl rfl rfl ?_
          refine TL.passG rfl rfl rfl rfl ?_
          refine TL.passG rfl rfl rfl rfl ?_
          refine TL.passG rfl rfl rfl rfl ?_
          refine TL.passG rfl rfl rfl rfl ?_
          refine TL.passG rfl rfl rfl rfl ?_
          refine TL.run1 (pure_pick_false rfl rfl) rfl ?_
          refine TL.run1 (pure_move rfl) rfl ?_
          refine TL.passG rfl rfl rfl rfl ?_
          refine TL.passG rfl rfl rfl rfl ?_
          refine TL.passG rfl rfl rfl rfl ?_
          refine TL.run1 (pure_pick_false rfl rfl) rfl ?_
          refine TL.run1 (pure_assign rfl) rfl ?_
          refine TL.cutEnd (by repeat (first | exact Same.refl _ _ | refine Same.put rfl ?_)) rfl ?_
          first | (simp only [hX1, decide_eq_true_eq, iff_true, true_iff]; done) | (simp_all; done) | (simp_all; omega) | grind
      refine TC.ret ?_
      exact ret_bool rfl (by simp)
end Go.Ob
