import Derived.Test.YtkedjbommcfhiaaDoorK8
import Derived.Test.YtkedjbommcfhiaaDoorK7
import Derived.Test.YtkedjbommcfhiaaDoorK2
set_option linter.unusedVariables false
set_option linter.unusedSimpArgs false
namespace Go.Ob
open Go.Proofs

def cutS (s : ByteArray) : ByteArray := s.extract 0 (min s.size 300)
theorem cutS_size (s : ByteArray) : (cutS s).size ≤ 300 := by unfold cutS; rw [ByteArray.size_extract]; omega
theorem KA_eq : bndV ⟨#[101, 204, 129, 120]⟩ = [0, 2, 3] ∧ errU ⟨#[101, 204, 129, 120]⟩ = 0 := by decide +kernel
theorem KB_eq : bndV ⟨#[240, 159, 135, 166, 240, 159, 135, 166, 240, 159, 135, 166, 240, 159, 135, 166, 240, 159, 135, 166]⟩ = [0, 2, 4, 5] ∧ errU ⟨#[240, 159, 135, 166, 240, 159, 135, 166, 240, 159, 135, 166, 240, 159, 135, 166, 240, 159, 135, 166]⟩ = 0 := by decide +kernel
theorem KC_eq : (cluV ⟨#[240, 159, 145, 168, 226, 128, 141, 240, 159, 145, 169]⟩).length = 1 ∧ errU ⟨#[240, 159, 145, 168, 226, 128, 141, 240, 159, 145, 169]⟩ = 0 := by decide +kernel
theorem KD_eq : classP 44033 = 12 := by decide +kernel
theorem KA_spec : Fun Tryd.prog 16 [.v (.string ⟨#[101, 204, 129, 120]⟩)] (.tup [.sl 1 (encI [0, 2, 3]), .v (.int .i64 0)]) := by
  have h := Boundaries_spec ⟨#[101, 204, 129, 120]⟩ (by decide)
  rwa [KA_eq.1, KA_eq.2] at h
theorem KB_spec : Fun Tryd.prog 16 [.v (.string ⟨#[240, 159, 135, 166, 240, 159, 135, 166, 240, 159, 135, 166, 240, 159, 135, 166, 240, 159, 135, 166]⟩)] (.tup [.sl 1 (encI [0, 2, 4, 5]), .v (.int .i64 0)]) := by
  have h := Boundaries_spec ⟨#[240, 159, 135, 166, 240, 159, 135, 166, 240, 159, 135, 166, 240, 159, 135, 166, 240, 159, 135, 166]⟩ (by decide)
  rwa [KB_eq.1, KB_eq.2] at h
theorem KC_spec : Fun Tryd.prog 21 [.v (.string ⟨#[240, 159, 145, 168, 226, 128, 141, 240, 159, 145, 169]⟩)] (.tup [.v (.int .i64 1), .v (.int .i64 0)]) := by
  have h := Count_spec ⟨#[240, 159, 145, 168, 226, 128, 141, 240, 159, 145, 169]⟩ (by decide)
  rwa [KC_eq.1, KC_eq.2] at h
theorem KD_spec : Fun Tryd.prog 13 [.v (.int .i64 44033)] (.v (.int .i64 12)) := by
  have h := Class_spec 44033
  rwa [KD_eq] at h
theorem RBnd_spec (s : ByteArray) (hs : s.size ≤ 1000000000) : Fun Tryd.prog 19 [.sl 1 (encI (pts s))] (.sl 1 (encI (bnds (cls s)))) := RBoundaries_spec (pts s) (by have := nR_le s; rw [pts_len]; omega)
theorem okV {s : ByteArray} (h : okS s = true) : ptsV s = pts s ∧ offsV s = offs s ∧ bndV s = bnds (cls s) ∧ cluV s = clS s ∧ errU s = 0 := by
  unfold ptsV offsV bndV cluV errU; rw [h]; exact ⟨rfl, rfl, rfl, rfl, rfl⟩
theorem badV {s : ByteArray} (h : okS s = false) : ptsV s = [] ∧ offsV s = [] ∧ bndV s = [] ∧ cluV s = [] ∧ errU s = 12 := by
  unfold ptsV offsV bndV cluV errU; rw [h]; exact ⟨rfl, rfl, rfl, rfl, rfl⟩
set_option maxRecDepth 100000 in
theorem same_spec (a b : List Int) (hl : a.length ≤ 1000000000) : Fun Tryd.prog 18 [.sl 1 (encI a), .sl 1 (encI b)] (.v (.bool (decide (a = b)))) := by
  refine Fun.enter (n := 26) (rs := [.tmp 4]) Tryd.func18 rfl Tryd.ntmps18 Tryd.results18 rfl (fun w F => ?_)
  have hka := encI_len a
  have hkb := encI_len b
  refine TC.seq ?_
  refine TC.region ?_
  refine TL.run1 (pure_assign rfl) rfl ?_
  refine TL.nil' ?_
  refine TC.seq ?_
  refine TC.seq ?_
  refine TC.region ?_
  refine TL.run1 (pure_move rfl) rfl ?_
  first | refine TL.run1 (pure_len Ty.sl26 rfl) rfl ?_ | refine TL.run1 (pure_len_row Ty.sl26 rfl (by repeat (first | exact List.Mem.head _ | apply List.Mem.tail))) rfl ?_ | refine TL.run1 (pure_len_nil Ty.sl26 rfl) rfl ?_
  refine TL.run1 (pure_move rfl) rfl ?_
  first | refine TL.run1 (pure_len Ty.sl26 rfl) rfl ?_ | refine TL.run1 (pure_len_row Ty.sl26 rfl (by repeat (first | exact List.Mem.head _ | apply List.Mem.tail))) rfl ?_ | refine TL.run1 (pure_len_nil Ty.sl26 rfl) rfl ?_
  refine TL.run1 (pure_neq rfl rfl) rfl ?_
  refine TL.nil' ?_
  first | refine TC.condD rfl (fun hc10 => ?_) (fun hc10 => ?_) | refine TC.condN rfl (fun hc10 => ?_) (fun hc10 => ?_) | refine TC.cond rfl (fun hc10 => ?_) (fun hc10 => ?_)
  · try dsimp only at hc10
    refine TC.seq ?_
    refine TC.region ?_
    refine TL.run1 (pure_assign rfl) rfl ?_
    refine TL.nil' ?_
    refine TC.ret ?_
    refine then_ret ?_
    exact ret_bool rfl (decide_eq_false (fun e => hc10 (by rw [hka, hkb, e]))).symm
  · try dsimp only at hc10
    refine TC.skip' ?_
    refine TC.seq ?_
    refine TC.seq ?_
    refine TC.region ?_
    refine TL.run1 (pure_assign rfl) rfl ?_
    refine TL.nil' ?_
    refine TC.block ?_
    refine TC.loopX (X := Int) (fun i => [(0, .sl 1 (encI a)), (1, .sl 1 (encI b)), (5, .v (.int .i64 i))]) (fun i => []) (fun i => (0 ≤ i) ∧ (i ≤ a.length) ∧ (∀ j : Nat, (j : Int) < i → a[j]? = b[j]?)) (fun i => (a.length - i).toNat) (0) ⟨by skip; repeat (first | exact Agree.nil | refine Agree.cons rfl ?_), by skip; repeat (first | exact List.nil_sublist _ | exact List.Sublist.refl _ | apply List.Sublist.cons_cons | apply List.Sublist.cons)⟩ ?_ ?_
    · skip
      exact ⟨by omega, by omega, fun j hj => by omega⟩
    intro i
    rintro ⟨h0, h1, h2⟩
    show TC _ _ _ (Env.of [(0, .sl 1 (encI a)), (1, .sl 1 (encI b)), (5, .v (.int .i64 i))]) []
    refine TC.seq ?_
    refine TC.seq ?_
    refine TC.region ?_
    refine TL.run1 (pure_move rfl) rfl ?_
    refine TL.run1 (pure_move rfl) rfl ?_
    first | refine TL.run1 (pure_len Ty.sl26 rfl) rfl ?_ | refine TL.run1 (pure_len_row Ty.sl26 rfl (by repeat (first | exact List.Mem.head _ | apply List.Mem.tail))) rfl ?_ | refine TL.run1 (pure_len_nil Ty.sl26 rfl) rfl ?_
    refine TL.run1 (pure_lss rfl rfl) rfl ?_
    refine TL.nil' ?_
    first | refine TC.condD rfl (fun hc14 => ?_) (fun hc14 => ?_) | refine TC.condN rfl (fun hc14 => ?_) (fun hc14 => ?_) | refine TC.cond rfl (fun hc14 => ?_) (fun hc14 => ?_)
    · try dsimp only at hc14
      refine TC.skip' ?_
      refine TC.seq ?_
      refine TC.block ?_
      refine TC.seq ?_
      have hra := encI_get a i (by omega) (by omega)
      have hrb := encI_get b i (by omega) (by omega)
      refine TC.draw Ty.follows (by kernel_rfl) ?_
      refine TD.run1 (pure_move rfl) rfl ?_
      refine TD.run1 (pure_move rfl) rfl ?_
      refine TD.run1 (pure_indexAddr Ty.sl26 rfl rfl (by omega) (by assumption) (List.cons_ne_nil _ _)) rfl ?_
      first | refine TD.run1 (pure_load1 Ty.one3 rfl) rfl ?_ | refine TD.run1 (pure_load1_own Ty.one3 rfl (by repeat (first | exact List.Mem.head _ | apply List.Mem.tail)) (by repeat (first | exact DropR.zero _ | apply DropR.succ))) rfl ?_
      refine TD.run1 (pure_move rfl) rfl ?_
      refine TD.run1 (pure_move rfl) rfl ?_
      refine TD.run1 (pure_indexAddr Ty.sl26 rfl rfl (by omega) (by assumption) (List.cons_ne_nil _ _)) rfl ?_
      first | refine TD.run1 (pure_load1 Ty.one3 rfl) rfl ?_ | refine TD.run1 (pure_load1_own Ty.one3 rfl (by repeat (first | exact List.Mem.head _ | apply List.Mem.tail)) (by repeat (first | exact DropR.zero _ | apply DropR.succ))) rfl ?_
      refine TD.run1 (pure_neq rfl rfl) rfl ?_
      refine TD.nil' ?_
      first | refine TC.condD rfl (fun hc25 => ?_) (fun hc25 => ?_) | refine TC.condN rfl (fun hc25 => ?_) (fun hc25 => ?_) | refine TC.cond rfl (fun hc25 => ?_) (fun hc25 => ?_)
      · try dsimp only at hc25
        refine TC.seq ?_
        refine TC.region ?_
        refine TL.run1 (pure_assign rfl) rfl ?_
        refine TL.nil' ?_
        refine TC.ret ?_
        refine block_ret ?_
        refine then_ret ?_
        refine loop_ret ?_
        refine block_ret ?_
        refine then_ret ?_
        exact ret_bool rfl (decide_eq_false (fun e => hc25 (by rw [e]))).symm
      · try dsimp only at hc25
        refine TC.skip ?_
        refine block_normal ?_
        refine then_normal ?_
        refine TC.region ?_
        refine TL.run1 (pure_move rfl) rfl ?_
        refine TL.run1 (pure_add rfl rfl (mkI64 (by omega) (by omega))) rfl ?_
        refine TL.run1 (pure_assign rfl) rfl ?_
        refine TL.nil ?_
        refine loop_next (i + 1) ⟨by repeat (first | exact Agree.nil | refine Agree.cons rfl ?_), by repeat (first | exact List.nil_sublist _ | exact List.Sublist.refl _ | apply List.Sublist.cons_cons | apply List.Sublist.cons)⟩ ⟨by omega, by omega, fun j hj => ?_⟩ (by omega)
        rcases Int.lt_or_eq_of_le (show (j : Int) ≤ i by omega) with h | h
        · exact h2 j h
        · have hq : iAt a i = iAt b i := Decidable.not_not.1 hc25
          unfold iAt at hq
          have e1 : i.toNat = j := by omega
          rw [e1] at hq
          have l1 : j < a.length := by omega
          have l2 : j < b.length := by omega
          simp only [List.getD_eq_getElem?_getD, List.getElem?_eq_getElem l1, List.getElem?_eq_getElem l2, Option.getD_some] at hq
          rw [List.getElem?_eq_getElem l1, List.getElem?_eq_getElem l2, hq]
    · try dsimp only at hc14
      refine TC.exit ?_
      refine then_exit ?_
      refine loop_exit ?_
      refine block_here ?_
      refine then_normal ?_
      refine TC.seq ?_
      refine TC.region ?_
      refine TL.run1 (pure_assign rfl) rfl ?_
      refine TL.nil' ?_
      refine TC.ret ?_
      have hll : a.length = b.length := by have := Decidable.not_not.1 hc10; omega
      exact ret_bool rfl (decide_eq_true (List.ext_getElem? fun j => by
        rcases Nat.lt_or_ge j a.length with h | h
        · exact h2 j (by omega)
        · rw [List.getElem?_eq_none h, List.getElem?_eq_none (by omega)])).symm
set_option maxRecDepth 100000 in
theorem cut_spec (s : ByteArray) : Fun Tryd.prog 15 [.v (.string s)] (.v (.string (cutS s))) := by
  refine Fun.enter (n := 8) (rs := [.tmp 2]) Tryd.func15 rfl Tryd.ntmps15 Tryd.results15 rfl (fun w F => ?_)
  refine TC.seq ?_
  refine TC.region ?_
  refine TL.run1 (pure_assign rfl) rfl ?_
  refine TL.nil' ?_
  refine TC.seq ?_
  refine TC.region ?_
  refine TL.run1 (pure_move rfl) rfl ?_
  refine TL.run1 (pure_move rfl) rfl ?_
  refine TL.run1 (pure_len_str Tryd.underlying9 rfl) rfl ?_
  refine TL.run1 (pure_min rfl rfl) rfl ?_
  refine TL.run1 (pure_slice_str (l := 0) (h := min s.size 300) Tryd.underlying9 rfl rfl (by rw [show ((min s.size 300 : Nat) : Int) = min (s.size : Int) 300 by omega]; rfl) (by omega) (by omega)) rfl ?_
  refine TL.run1 (pure_assign rfl) rfl ?_
  refine TL.nil' ?_
  refine TC.ret ?_
  exact ret_str rfl rfl
set_option maxRecDepth 100000 in
theorem known_spec  : Fun Tryd.prog 12 [] (.v (.bool true)) := by
  refine Fun.enter (n := 47) (rs := [.tmp 0]) Tryd.func12 rfl Tryd.ntmps12 Tryd.results12 rfl (fun w F => ?_)
  refine TC.seq ?_
  refine TC.region ?_
  refine TL.run1 (pure_assign rfl) rfl ?_
  refine TL.nil' ?_
  refine TC.seq ?_
  refine TC.region ?_
  first | refine TL.run1 (pure_call (KA_spec) (.cons rfl .nil) Tryd.call16) rfl ?_ | refine TL.run1 (pure_call (KB_spec) (.cons rfl .nil) Tryd.call16) rfl ?_
  refine TL.run1 (pure_move rfl) rfl ?_
  refine TL.run1 (pure_extract rfl rfl) rfl ?_
  refine TL.run1 (pure_extract rfl rfl) rfl ?_
  refine TL.run1 (pure_assign rfl) rfl ?_
  refine TL.run1 (pure_assign rfl) rfl ?_
  refine TL.nil' ?_
  refine TC.seq ?_
  refine TC.region ?_
  first | refine TL.run1 (pure_call (KA_spec) (.cons rfl .nil) Tryd.call16) rfl ?_ | refine TL.run1 (pure_call (KB_spec) (.cons rfl .nil) Tryd.call16) rfl ?_
  refine TL.run1 (pure_move rfl) rfl ?_
  refine TL.run1 (pure_extract rfl rfl) rfl ?_
  refine TL.run1 (pure_extract rfl rfl) rfl ?_
  refine TL.run1 (pure_assign rfl) rfl ?_
  refine TL.run1 (pure_assign rfl) rfl ?_
  refine TL.nil' ?_
  refine TC.seq ?_
  refine TC.region ?_
  refine TL.run1 (pure_call (KC_spec) (.cons rfl .nil) Tryd.call21) rfl ?_
  refine TL.run1 (pure_move rfl) rfl ?_
  refine TL.run1 (pure_extract rfl rfl) rfl ?_
  refine TL.run1 (pure_extract rfl rfl) rfl ?_
  refine TL.run1 (pure_assign rfl) rfl ?_
  refine TL.run1 (pure_assign rfl) rfl ?_
  refine TL.nil' ?_
  refine TC.regionCut [19, 20, 21, 22, 23, 24, 25, 26, 27, 28, 29, 30, 31, 32, 33, 34, 35, 36, 37, 38, 39, 40, 41, 42, 43, 44, 45, 46, 0] 0 (True) ?_ ?_
  · skip
    refine TL.run1 (pure_move rfl) rfl ?_
    refine TL.run1 (pure_eql rfl rfl) rfl ?_
    refine TL.run1 (pure_move rfl) rfl ?_
    first | refine TL.splitP 21 rfl (fun hg21 => ?_) (fun hg21 => ?_) | refine TL.split 21 rfl (fun hg21 => ?_) (fun hg21 => ?_)
    · try dsimp only at hg21
      refine TL.runG rfl rfl (pure_move rfl) rfl ?_
      refine TL.runG rfl rfl (pure_buildSlice (xs := [.const (.int .i64 0), .const (.int .i64 2), .const (.int .i64 3)]) Ty.app26 (by decide) rfl rfl (.cons rfl (.one rfl) rfl (.cons rfl (.one rfl) rfl (.cons rfl (.one rfl) rfl .nil)))) rfl ?_
      first | refine TL.runG rfl rfl (pure_call (same_spec [0, 2, 3] [0, 2, 3] (by decide)) (.cons rfl (.cons rfl .nil)) Tryd.call18) rfl ?_ | refine TL.runG rfl rfl (pure_call (same_spec [0, 2, 4, 5] [0, 2, 4, 5] (by decide)) (.cons rfl (.cons rfl .nil)) Tryd.call18) rfl ?_
      refine TL.run1 (pure_pick_true rfl rfl) rfl ?_
      refine TL.run1 (pure_move rfl) rfl ?_
      first | refine TL.splitP 26 rfl (fun hg26 => ?_) (fun hg26 => ?_) | refine TL.split 26 rfl (fun hg26 => ?_) (fun hg26 => ?_)
      · try dsimp only at hg26
        refine TL.runG rfl rfl (pure_move rfl) rfl ?_
        refine TL.runG rfl rfl (pure_eql rfl rfl) rfl ?_
        refine TL.run1 (pure_pick_true rfl rfl) rfl ?_
        refine TL.run1 (pure_move rfl) rfl ?_
        first | refine TL.splitP 30 rfl (fun hg30 => ?_) (fun hg30 => ?_) | refine TL.split 30 rfl (fun hg30 => ?_) (fun hg30 => ?_)
        · try dsimp only at hg30
          refine TL.runG rfl rfl (pure_move rfl) rfl ?_
          refine TL.runG rfl rfl (pure_buildSlice (xs := [.const (.int .i64 0), .const (.int .i64 2), .const (.int .i64 4), .const (.int .i64 5)]) Ty.app26 (by decide) rfl rfl (.cons rfl (.one rfl) rfl (.cons rfl (.one rfl) rfl (.cons rfl (.one rfl) rfl (.cons rfl (.one rfl) rfl .nil))))) rfl ?_
          first | refine TL.runG rfl rfl (pure_call (same_spec [0, 2, 3] [0, 2, 3] (by decide)) (.cons rfl (.cons rfl .nil)) Tryd.call18) rfl ?_ | refine TL.runG rfl rfl (pure_call (same_spec [0, 2, 4, 5] [0, 2, 4, 5] (by decide)) (.cons rfl (.cons rfl .nil)) Tryd.call18) rfl ?_
          refine TL.run1 (pure_pick_true rfl rfl) rfl ?_
          refine TL.run1 (pure_move rfl) rfl ?_
          first | refine TL.splitP 35 rfl (fun hg35 => ?_) (fun hg35 => ?_) | refine TL.split 35 rfl (fun hg35 => ?_) (fun hg35 => ?_)
          · try dsimp only at hg35
            refine TL.runG rfl rfl (pure_move rfl) rfl ?_
            refine TL.runG rfl rfl (pure_eql rfl rfl) rfl ?_
            refine TL.run1 (pure_pick_true rfl rfl) rfl ?_
            refine TL.run1 (pure_move rfl) rfl ?_
            first | refine TL.splitP 39 rfl (fun hg39 => ?_) (fun hg39 => ?_) | refine TL.split 39 rfl (fun hg39 => ?_) (fun hg39 => ?_)
            · try dsimp only at hg39
              refine TL.runG rfl rfl (pure_move rfl) rfl ?_
              refine TL.runG rfl rfl (pure_eql rfl rfl) rfl ?_
              refine TL.run1 (pure_pick_true rfl rfl) rfl ?_
              refine TL.run1 (pure_move rfl) rfl ?_
              first | refine TL.splitP 43 rfl (fun hg43 => ?_) (fun hg43 => ?_) | refine TL.split 43 rfl (fun hg43 => ?_) (fun hg43 => ?_)
              · try dsimp only at hg43
                refine TL.runG rfl rfl (pure_call (KD_spec) (.cons rfl .nil) Tryd.call13) rfl ?_
                refine TL.runG rfl rfl (pure_eql rfl rfl) rfl ?_
                refine TL.run1 (pure_pick_true rfl rfl) rfl ?_
                refine TL.run1 (pure_assign rfl) rfl ?_
                refine TL.cutEnd (by repeat (first | exact Same.refl _ _ | refine Same.put rfl ?_)) rfl ?_
                first | rfl | (simp_all [encI]; done) | (simp_all; omega) | grind
              · try dsimp only at hg43
                refine TL.passG rfl rfl rfl rfl ?_
                refine TL.passG rfl rfl rfl rfl ?_
                refine TL.run1 (pure_pick_false rfl rfl) rfl ?_
                refine TL.run1 (pure_assign rfl) rfl ?_
                refine TL.cutEnd (by repeat (first | exact Same.refl _ _ | refine Same.put rfl ?_)) rfl ?_
                first | rfl | (simp_all [encI]; done) | (simp_all; omega) | grind
            · try dsimp only at hg39
              refine TL.passG rfl rfl rfl rfl ?_
              refine TL.passG rfl rfl rfl rfl ?_
              refine TL.run1 (pure_pick_false rfl rfl) rfl ?_
              refine TL.run1 (pure_move rfl) rfl ?_
              refine TL.passG rfl rfl rfl rfl ?_
              refine TL.passG rfl rfl rfl rfl ?_
              refine TL.run1 (pure_pick_false rfl rfl) rfl ?_
              refine TL.run1 (pure_assign rfl) rfl ?_
              refine TL.cutEnd (by repeat (first | exact Same.refl _ _ | refine Same.put rfl ?_)) rfl ?_
              first | rfl | (simp_all [encI]; done) | (simp_all; omega) | grind
          · try dsimp only at hg35
            refine TL.passG rfl rfl rfl rfl ?_
            refine TL.passG rfl rfl rfl rfl ?_
            refine TL.run1 (pure_pick_false rfl rfl) rfl ?_
            refine TL.run1 (pure_move rfl) rfl ?_
            refine TL.passG rfl rfl rfl rfl ?_
            refine TL.passG rfl rfl rfl rfl ?_
            refine TL.run1 (pure_pick_false rfl rfl) rfl ?_
            refine TL.run1 (pure_move rfl) rfl ?_
            refine TL.passG rfl rfl rfl rfl ?_
            refine TL.passG rfl rfl rfl rfl ?_
            refine TL.run1 (pure_pick_false rfl rfl) rfl ?_
            refine TL.run1 (pure_assign rfl) rfl ?_
            refine TL.cutEnd (by repeat (first | exact Same.refl _ _ | refine Same.put rfl ?_)) rfl ?_
            first | rfl | (simp_all [encI]; done) | (simp_all; omega) | grind
        · try dsimp only at hg30
          refine TL.passG rfl rfl rfl rfl ?_
          refine TL.passG rfl rfl rfl rfl ?_
          refine TL.passG rfl rfl rfl rfl ?_
          refine TL.run1 (pure_pick_false rfl rfl) rfl ?_
          refine TL.run1 (pure_move rfl) rfl ?_
          refine TL.passG rfl rfl rfl rfl ?_
          refine TL.passG rfl rfl rfl rfl ?_
          refine TL.run1 (pure_pick_false rfl rfl) rfl ?_
          refine TL.run1 (pure_move rfl) rfl ?_
          refine TL.passG rfl rfl rfl rfl ?_
          refine TL.passG rfl rfl rfl rfl ?_
          refine TL.run1 (pure_pick_false rfl rfl) rfl ?_
          refine TL.run1 (pure_move rfl) rfl ?_
          refine TL.passG rfl rfl rfl rfl ?_
          refine TL.passG rfl rfl rfl rfl ?_
          refine TL.run1 (pure_pick_false rfl rfl) rfl ?_
          refine TL.run1 (pure_assign rfl) rfl ?_
          refine TL.cutEnd (by repeat (first | exact Same.refl _ _ | refine Same.put rfl ?_)) rfl ?_
          first | rfl | (simp_all [encI]; done) | (simp_all; omega) | grind
      · try dsimp only at hg26
        refine TL.passG rfl rfl rfl rfl ?_
        refine TL.passG rfl rfl rfl rfl ?_
        refine TL.run1 (pure_pick_false rfl rfl) rfl ?_
        refine TL.run1 (pure_move rfl) rfl ?_
        refine TL.passG rfl rfl rfl rfl ?_
        refine TL.passG rfl rfl rfl rfl ?_
        refine TL.passG rfl rfl rfl rfl ?_
        refine TL.run1 (pure_pick_false rfl rfl) rfl ?_
        refine TL.run1 (pure_move rfl) rfl ?_
        refine TL.passG rfl rfl rfl rfl ?_
        refine TL.passG rfl rfl rfl rfl ?_
        refine TL.run1 (pure_pick_false rfl rfl) rfl ?_
        refine TL.run1 (pure_move rfl) rfl ?_
        refine TL.passG rfl rfl rfl rfl ?_
        refine TL.passG rfl rfl rfl rfl ?_
        refine TL.run1 (pure_pick_false rfl rfl) rfl ?_
        refine TL.run1 (pure_move rfl) rfl ?_
        refine TL.passG rfl rfl rfl rfl ?_
        refine TL.passG rfl rfl rfl rfl ?_
        refine TL.run1 (pure_pick_false rfl rfl) rfl ?_
        refine TL.run1 (pure_assign rfl) rfl ?_
        refine TL.cutEnd (by repeat (first | exact Same.refl _ _ | refine Same.put rfl ?_)) rfl ?_
        first | rfl | (simp_all [encI]; done) | (simp_all; omega) | grind
    · try dsimp only at hg21
      refine TL.passG rfl rfl rfl rfl ?_
      refine TL.passG rfl rfl rfl rfl ?_
      refine TL.passG rfl rfl rfl rfl ?_
      refine TL.run1 (pure_pick_false rfl rfl) rfl ?_
      refine TL.run1 (pure_move rfl) rfl ?_
      refine TL.passG rfl rfl rfl rfl ?_
      refine TL.passG rfl rfl rfl rfl ?_
      refine TL.run1 (pure_pick_false rfl rfl) rfl ?_
      refine TL.run1 (pure_move rfl) rfl ?_
      refine TL.passG rfl rfl rfl rfl ?_
      refine TL.passG rfl rfl rfl rfl ?_
      refine TL.passG rfl rfl rfl rfl ?_
      refine TL.run1 (pure_pick_false rfl rfl) rfl ?_
      refine TL.run1 (pure_move rfl) rfl ?_
      refine TL.passG rfl rfl rfl rfl ?_
      refine TL.passG rfl rfl rfl rfl ?_
      refine TL.run1 (pure_pick_false rfl rfl) rfl ?_
      refine TL.run1 (pure_move rfl) rfl ?_
      refine TL.passG rfl rfl rfl rfl ?_
      refine TL.passG rfl rfl rfl rfl ?_
      refine TL.run1 (pure_pick_false rfl rfl) rfl ?_
      refine TL.run1 (pure_move rfl) rfl ?_
      refine TL.passG rfl rfl rfl rfl ?_
      refine TL.passG rfl rfl rfl rfl ?_
      refine TL.run1 (pure_pick_false rfl rfl) rfl ?_
      refine TL.run1 (pure_assign rfl) rfl ?_
      refine TL.cutEnd (by repeat (first | exact Same.refl _ _ | refine Same.put rfl ?_)) rfl ?_
      first | rfl | (simp_all [encI]; done) | (simp_all; omega) | grind
  refine TC.ret ?_
  exact ret_bool rfl (by simp)
set_option maxRecDepth 100000 in
theorem GraphemeClasses_spec (p : Int) : Fun Tryd.prog 3 [.v (.int .i64 p)] (.v (.bool true)) := by
  refine Fun.enter (n := 11) (rs := [.tmp 2]) Tryd.func3 rfl Tryd.ntmps3 Tryd.results3 rfl (fun w F => ?_)
  refine TC.seq ?_
  refine TC.region ?_
  refine TL.run1 (pure_assign rfl) rfl ?_
  refine TL.nil' ?_
  refine TC.regionCut [3, 4, 5, 6, 7, 8, 9, 10, 2] 2 (True) ?_ ?_
  · skip
    refine TL.run1 (pure_call (known_spec) .nil Tryd.call12) rfl ?_
    refine TL.run1 (pure_move rfl) rfl ?_
    first | refine TL.splitP 4 rfl (fun hg4 => ?_) (fun hg4 => ?_) | refine TL.split 4 rfl (fun hg4 => ?_) (fun hg4 => ?_)
    · try dsimp only at hg4
      refine TL.runG rfl rfl (pure_move rfl) rfl ?_
      refine TL.runG rfl rfl (pure_call (Class_spec _) (.cons rfl .nil) Tryd.call13) rfl ?_
      refine TL.runG rfl rfl (pure_move rfl) rfl ?_
      refine TL.runG rfl rfl (pure_call (RClass_spec _) (.cons rfl .nil) Tryd.call14) rfl ?_
      refine TL.runG rfl rfl (pure_eql rfl rfl) rfl ?_
      refine TL.run1 (pure_pick_true rfl rfl) rfl ?_
      refine TL.run1 (pure_assign rfl) rfl ?_
      refine TL.cutEnd (by repeat (first | exact Same.refl _ _ | refine Same.put rfl ?_)) rfl ?_
      first | rfl | (simp_all [encI]; done) | (simp_all; omega) | grind
    · try dsimp only at hg4
      refine TL.passG rfl rfl rfl rfl ?_
      refine TL.passG rfl rfl rfl rfl ?_
      refine TL.passG rfl rfl rfl rfl ?_
      refine TL.passG rfl rfl rfl rfl ?_
      refine TL.passG rfl rfl rfl rfl ?_
      refine TL.run1 (pure_pick_false rfl rfl) rfl ?_
      refine TL.run1 (pure_assign rfl) rfl ?_
      refine TL.cutEnd (by repeat (first | exact Same.refl _ _ | refine Same.put rfl ?_)) rfl ?_
      first | rfl | (simp_all [encI]; done) | (simp_all; omega) | grind
  refine TC.ret ?_
  exact ret_bool rfl (by simp)
set_option maxRecDepth 100000 in
theorem GraphemeBoundaries_spec (s : ByteArray) : Fun Tryd.prog 4 [.v (.string s)] (.v (.bool true)) := by
  refine Fun.enter (n := 40) (rs := [.tmp 2]) Tryd.func4 rfl Tryd.ntmps4 Tryd.results4 rfl (fun w F => ?_)
  have hcs := cutS_size s
  have hnl := nR_le (cutS s)
  have hbl : (bnds (cls (cutS s))).length = (cAll (cls (cutS s))).length + 1 := ends_len _
  have hcl := cAll_len_le (cls (cutS s))
  rw [cls_len] at hcl
  refine TC.seq ?_
  refine TC.region ?_
  refine TL.run1 (pure_assign rfl) rfl ?_
  refine TL.nil' ?_
  refine TC.seq ?_
  refine TC.region ?_
  refine TL.run1 (pure_move rfl) rfl ?_
  refine TL.run1 (pure_call (cut_spec s) (.cons rfl .nil) Tryd.call15) rfl ?_
  refine TL.run1 (pure_assign rfl) rfl ?_
  refine TL.nil' ?_
  refine TC.seq ?_
  refine TC.region ?_
  refine TL.run1 (pure_move rfl) rfl ?_
  refine TL.run1 (pure_call (Boundaries_spec (cutS s) (by omega)) (.cons rfl .nil) Tryd.call16) rfl ?_
  refine TL.run1 (pure_move rfl) rfl ?_
  refine TL.run1 (pure_extract rfl rfl) rfl ?_
  refine TL.run1 (pure_extract rfl rfl) rfl ?_
  refine TL.run1 (pure_assign rfl) rfl ?_
  refine TL.run1 (pure_assign rfl) rfl ?_
  refine TL.nil' ?_
  refine TC.seq ?_
  refine TC.region ?_
  refine TL.run1 (pure_move rfl) rfl ?_
  refine TL.run1 (pure_call (Points_spec (cutS s) (by omega)) (.cons rfl .nil) Tryd.call17) rfl ?_
  refine TL.run1 (pure_move rfl) rfl ?_
  refine TL.run1 (pure_extract rfl rfl) rfl ?_
  refine TL.run1 (pure_extract rfl rfl) rfl ?_
  refine TL.run1 (pure_extract rfl rfl) rfl ?_
  refine TL.run1 (pure_assign rfl) rfl ?_
  refine TL.run1 (pure_assign rfl) rfl ?_
  refine TL.run1 (pure_assign rfl) rfl ?_
  refine TL.nil' ?_
  refine TC.seq ?_
  refine TC.seq ?_
  refine TC.region ?_
  refine TL.run1 (pure_call (known_spec) .nil Tryd.call12) rfl ?_
  refine TL.run1 (pure_not rfl) rfl ?_
  refine TL.nil' ?_
  first | refine TC.condD rfl (fun hc22 => ?_) (fun hc22 => ?_) | refine TC.condN rfl (fun hc22 => ?_) (fun hc22 => ?_) | refine TC.cond rfl (fun hc22 => ?_) (fun hc22 => ?_)
  · try dsimp only at hc22
    exact absurd hc22 (by simp)
  · try dsimp only at hc22
    refine TC.skip' ?_
    refine TC.seq ?_
    refine TC.seq ?_
    refine TC.region ?_
    refine TL.run1 (pure_move rfl) rfl ?_
    refine TL.run1 (pure_not rfl) rfl ?_
    refine TL.nil' ?_
    first | refine TC.condD rfl (fun hc24 => ?_) (fun hc24 => ?_) | refine TC.condN rfl (fun hc24 => ?_) (fun hc24 => ?_) | refine TC.cond rfl (fun hc24 => ?_) (fun hc24 => ?_)
    · try dsimp only at hc24
      have hok : okS (cutS s) = false := decide_eq_false hc24
      obtain ⟨v1, v2, v3, v4, v5⟩ := badV hok
      rw [v3, v5]
      refine TC.regionCut [25, 26, 27, 28, 29, 30, 31, 2] 2 (True) ?_ ?_
      · skip
        refine TL.run1 (pure_move rfl) rfl ?_
        refine TL.run1 (pure_eql rfl rfl) rfl ?_
        refine TL.run1 (pure_move rfl) rfl ?_
        first | refine TL.splitP 27 rfl (fun hg27 => ?_) (fun hg27 => ?_) | refine TL.split 27 rfl (fun hg27 => ?_) (fun hg27 => ?_)
        · try dsimp only at hg27
          refine TL.runG rfl rfl (pure_move rfl) rfl ?_
          first | refine TL.runG rfl rfl (pure_len Ty.sl26 rfl) rfl ?_ | refine TL.runG rfl rfl (pure_len_row Ty.sl26 rfl (by repeat (first | exact List.Mem.head _ | apply List.Mem.tail))) rfl ?_ | refine TL.runG rfl rfl (pure_len_nil Ty.sl26 rfl) rfl ?_
          refine TL.runG rfl rfl (pure_eql rfl rfl) rfl ?_
          refine TL.run1 (pure_pick_true rfl rfl) rfl ?_
          refine TL.run1 (pure_assign rfl) rfl ?_
          refine TL.cutEnd (by repeat (first | exact Same.refl _ _ | refine Same.put rfl ?_)) rfl ?_
          first | rfl | (simp_all [encI]; done) | (simp_all; omega) | grind
        · try dsimp only at hg27
          refine TL.passG rfl rfl rfl rfl ?_
          refine TL.passG rfl rfl rfl rfl ?_
          refine TL.passG rfl rfl rfl rfl ?_
          refine TL.run1 (pure_pick_false rfl rfl) rfl ?_
          refine TL.run1 (pure_assign rfl) rfl ?_
          refine TL.cutEnd (by repeat (first | exact Same.refl _ _ | refine Same.put rfl ?_)) rfl ?_
          first | rfl | (simp_all [encI]; done) | (simp_all; omega) | grind
      refine TC.ret ?_
      refine then_ret ?_
      exact ret_bool rfl (by simp)
    · try dsimp only at hc24
      have hok : okS (cutS s) = true := decide_eq_true hc24
      obtain ⟨v1, v2, v3, v4, v5⟩ := okV hok
      rw [v3, v5, v1]
      refine TC.skip' ?_
      refine TC.regionCut [32, 33, 34, 35, 36, 37, 38, 39, 2] 2 (True) ?_ ?_
      · skip
        refine TL.run1 (pure_move rfl) rfl ?_
        refine TL.run1 (pure_eql rfl rfl) rfl ?_
        refine TL.run1 (pure_move rfl) rfl ?_
        first | refine TL.splitP 34 rfl (fun hg34 => ?_) (fun hg34 => ?_) | refine TL.split 34 rfl (fun hg34 => ?_) (fun hg34 => ?_)
        · try dsimp only at hg34
          refine TL.runG rfl rfl (pure_move rfl) rfl ?_
          refine TL.runG rfl rfl (pure_move rfl) rfl ?_
          refine TL.runG rfl rfl (pure_call (RBnd_spec (cutS s) (by omega)) (.cons rfl .nil) Tryd.call19) rfl ?_
          refine TL.runG rfl rfl (pure_call (same_spec (bnds (cls (cutS s))) (bnds (cls (cutS s))) (by rw [hbl]; omega)) (.cons rfl (.cons rfl .nil)) Tryd.call18) rfl ?_
          refine TL.run1 (pure_pick_true rfl rfl) rfl ?_
          refine TL.run1 (pure_assign rfl) rfl ?_
          refine TL.cutEnd (by repeat (first | exact Same.refl _ _ | refine Same.put rfl ?_)) rfl ?_
          first | rfl | (simp_all [encI]; done) | (simp_all; omega) | grind
        · try dsimp only at hg34
          refine TL.passG rfl rfl rfl rfl ?_
          refine TL.passG rfl rfl rfl rfl ?_
          refine TL.passG rfl rfl rfl rfl ?_
          refine TL.passG rfl rfl rfl rfl ?_
          refine TL.run1 (pure_pick_false rfl rfl) rfl ?_
          refine TL.run1 (pure_assign rfl) rfl ?_
          refine TL.cutEnd (by repeat (first | exact Same.refl _ _ | refine Same.put rfl ?_)) rfl ?_
          first | rfl | (simp_all [encI]; done) | (simp_all; omega) | grind
      refine TC.ret ?_
      exact ret_bool rfl (by simp)
end Go.Ob
