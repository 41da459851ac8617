import Derived.Test.YtkmgogabbefonaaDoorC1
import Derived.Test.YtkmgogabbefonaaDoorK1
set_option linter.unusedVariables false
set_option linter.unusedSimpArgs false
namespace Go.Ob
open Go.Proofs

structure Fo where
  face : Int
  size : Int
  raise : Int
  bold : Bool
def FBad (f : Fo) : Prop := f.face < 0 ∨ f.face > 63 ∨ f.size < 2 ∨ f.size > 1638 ∨ f.raise < -400 ∨ f.raise > 400
instance (f : Fo) : Decidable (FBad f) := by unfold FBad; infer_instance
def errF (f : Fo) : Int := if FBad f then 2 else 0
def strA : ByteArray := ⟨#[105, 106, 108, 46, 44, 58, 59, 39, 33, 124]⟩
def strB : ByteArray := ⟨#[102, 114, 116, 73, 40, 41, 91, 93, 123, 125, 45, 47, 92, 34, 96]⟩
def hasB (s : ByteArray) (p : Int) : Bool := s.data.toList.any fun b => decide ((b.toNat : Int) = p)
theorem hasA_of : ∀ p : Nat, p < 128 → decide (firstIdx strA p.toUInt8 ≥ 0) = hasB strA p := by decide +kernel
theorem hasB_of : ∀ p : Nat, p < 128 → decide (firstIdx strB p.toUInt8 ≥ 0) = hasB strB p := by decide +kernel
theorem hasA_big (p : Int) (h : p > 127) : hasB strA p = false := by
  have : ∀ b ∈ strA.data.toList, b.toNat < 128 := by decide +kernel
  unfold hasB
  rw [List.any_eq_false]
  intro b hb e
  have := this b hb
  have := of_decide_eq_true e
  omega
theorem hasB_big (p : Int) (h : p > 127) : hasB strB p = false := by
  have : ∀ b ∈ strB.data.toList, b.toNat < 128 := by decide +kernel
  unfold hasB
  rw [List.any_eq_false]
  intro b hb e
  have := this b hb
  have := of_decide_eq_true e
  omega
def baseP (p : Int) : Int :=
  if p = 32 ∨ p = 160 then 250 else if hasB strA p = true then 280 else if hasB strB p = true then 340 else if p = 109 ∨ p = 119 then 780 else if 97 ≤ p ∧ p ≤ 122 then 500
  else if p = 77 ∨ p = 87 then 880 else if 65 ≤ p ∧ p ≤ 90 then 660 else if 48 ≤ p ∧ p ≤ 57 then 500 else 560
theorem baseP_big (p : Int) (h : p > 127) (h2 : ¬ (p = 32 ∨ p = 160)) : baseP p = 560 := by
  unfold baseP
  rw [if_neg h2, hasA_big p h, hasB_big p h, if_neg (by simp), if_neg (by simp), if_neg (by omega), if_neg (by omega), if_neg (by omega), if_neg (by omega), if_neg (by omega)]
theorem baseP_range (p : Int) : 250 ≤ baseP p ∧ baseP p ≤ 880 := by
  unfold baseP
  repeat' split
  all_goals omega
def Zero (c : Int) : Prop := c = 3 ∨ c = 1 ∨ c = 2 ∨ c = 4 ∨ c = 5
instance (c : Int) : Decidable (Zero c) := by unfold Zero; infer_instance
def WideC (c : Int) : Prop := c = 8 ∨ c = 9 ∨ c = 10 ∨ c = 11 ∨ c = 12 ∨ c = 13 ∨ c = 14
instance (c : Int) : Decidable (WideC c) := by unfold WideC; infer_instance
def wideP (f : Fo) : Int := if f.face % 2 = 0 then 1000 else 1200
/-- the nominal width without the weight -/
def nomP (f : Fo) (p : Int) : Int :=
  if Zero (classP p) then 0 else if WideC (classP p) ∨ p ≥ 11904 then wideP f else if ¬ f.face % 2 = 0 then 600 else baseP p
theorem nomP_range (f : Fo) (p : Int) : 0 ≤ nomP f p ∧ nomP f p ≤ 1200 := by
  have := baseP_range p
  unfold nomP wideP
  repeat' split
  all_goals omega
def nomL (f : Fo) (p : Int) : Int := if f.face % 2 = 0 ∧ f.bold = true ∧ nomP f p ≠ 0 then nomP f p + 40 else nomP f p
theorem nomL_range (f : Fo) (p : Int) : 0 ≤ nomL f p ∧ nomL f p ≤ 1240 := by
  have := nomP_range f p
  unfold nomL
  split <;> omega
def scP (f : Fo) (n : Int) : Int := (n * (10 * f.size) + 500) / 1000
theorem scP_mul {f : Fo} {n : Int} (hf : ¬ FBad f) (h0 : 0 ≤ n) (h1 : n ≤ 2000) : 0 ≤ n * (10 * f.size) ∧ n * (10 * f.size) ≤ 32760000 := by
  unfold FBad at hf
  have a : 0 ≤ 10 * f.size := by omega
  have b : 10 * f.size ≤ 16380 := by omega
  refine ⟨Int.mul_nonneg h0 a, ?_⟩
  have := Int.mul_le_mul h1 b a (by omega : (0 : Int) ≤ 2000)
  omega
theorem scP_range {f : Fo} {n : Int} (hf : ¬ FBad f) (h0 : 0 ≤ n) (h1 : n ≤ 2000) : 0 ≤ scP f n ∧ scP f n ≤ 32761 := by
  have := scP_mul hf h0 h1
  unfold scP
  omega
def widP (f : Fo) (s : ByteArray) : Int := scP f (nomL f (p1 s))
theorem widP_range {f : Fo} (hf : ¬ FBad f) (s : ByteArray) : 0 ≤ widP f s ∧ widP f s ≤ 32761 := by
  have := nomL_range f (p1 s)
  exact scP_range hf (by omega) (by omega)
def kK (t : ByteArray) : Int :=
  if t = ⟨#[65, 86]⟩ ∨ t = ⟨#[86, 65]⟩ ∨ t = ⟨#[65, 87]⟩ ∨ t = ⟨#[87, 65]⟩ ∨ t = ⟨#[65, 84]⟩ ∨ t = ⟨#[84, 65]⟩ ∨ t = ⟨#[65, 89]⟩ ∨ t = ⟨#[89, 65]⟩ then 80 else if t = ⟨#[84, 111]⟩ ∨ t = ⟨#[84, 97]⟩ ∨ t = ⟨#[84, 101]⟩ ∨ t = ⟨#[84, 114]⟩ ∨ t = ⟨#[86, 111]⟩ ∨ t = ⟨#[86, 97]⟩ ∨ t = ⟨#[86, 101]⟩ ∨ t = ⟨#[89, 111]⟩ ∨ t = ⟨#[89, 97]⟩ ∨ t = ⟨#[89, 101]⟩ ∨ t = ⟨#[76, 84]⟩ ∨ t = ⟨#[76, 86]⟩ ∨ t = ⟨#[76, 89]⟩ ∨ t = ⟨#[80, 44]⟩ ∨ t = ⟨#[80, 46]⟩ ∨ t = ⟨#[70, 44]⟩ ∨ t = ⟨#[70, 46]⟩ then 60 else 0
theorem kK_range (t : ByteArray) : 0 ≤ kK t ∧ kK t ≤ 80 := by
  unfold kK
  repeat' split
  all_goals omega
def krP (f : Fo) (a b : ByteArray) : Int := if kK (a ++ b) = 0 ∨ ¬ f.face % 2 = 0 then 0 else -(scP f (kK (a ++ b)))
theorem krP_range {f : Fo} (hf : ¬ FBad f) (a b : ByteArray) : -32761 ≤ krP f a b ∧ krP f a b ≤ 0 := by
  have h := kK_range (a ++ b)
  have := scP_range (n := kK (a ++ b)) hf (by omega) (by omega)
  unfold krP
  split <;> omega
def chkV (f : Fo) (l : List ByteArray) : Int := if FBad f then 2 else if ∀ s ∈ l, okS s = true then 0 else 12
set_option maxRecDepth 100000 in
theorem Check_spec (f : Fo) : Fun Tryd.prog 31 [.agg [.v (.int .i64 f.face), .v (.int .i64 f.size), .v (.int .i64 f.raise), .v (.bool f.bold)]] (.v (.int .i64 (errF f))) := by
  refine Fun.enter (n := 31) (rs := [.tmp 2]) Tryd.func31 rfl Tryd.ntmps31 Tryd.results31 rfl (fun w F => ?_)
  refine TC.seq ?_
  refine TC.region ?_
  refine TL.box rfl (.agg _) rfl (fun g1 => ?_)
  refine TL.run1 (pure_assign rfl) rfl ?_
  refine TL.nil' ?_
  refine TC.seq ?_
  refine TC.regionCut [3, 4, 5, 6, 7, 8, 9, 10, 11, 12, 13, 14, 15, 16, 17, 18, 19, 20, 21, 22, 23, 24, 25, 26, 27, 28, 29, 30] 30 (f.face < 0 ∨ f.face > 63 ∨ f.size < 2 ∨ f.size > 1638 ∨ f.raise < -400 ∨ f.raise > 400) ?_ ?_
  · skip
    first | refine TL.run1 (pure_fieldAddr Ty.f23_0 rfl (.zero _) (List.cons_ne_nil _ _)) rfl ?_ | refine TL.run1 (pure_fieldAddr_own Ty.f23_0 rfl) rfl ?_
    first | refine TL.run1 (pure_load1 Ty.one3 rfl) rfl ?_ | refine TL.run1 (pure_load1_own Ty.one3 rfl (by repeat (first | exact List.Mem.head _ | apply List.Mem.tail)) (by repeat (first | exact DropR.zero _ | apply DropR.succ))) rfl ?_
    refine TL.run1 (pure_lss rfl rfl) rfl ?_
    refine TL.run1 (pure_move rfl) rfl ?_
    first | refine TL.splitP 6 rfl (fun hg6 => ?_) (fun hg6 => ?_) | refine TL.split 6 rfl (fun hg6 => ?_) (fun hg6 => ?_)
    · try dsimp only at hg6
      refine TL.passG rfl rfl rfl rfl ?_
      refine TL.passG rfl rfl rfl rfl ?_
      refine TL.passG rfl rfl rfl rfl ?_
      refine TL.run1 (pure_pick_true rfl rfl) rfl ?_
      refine TL.run1 (pure_move rfl) rfl ?_
      refine TL.passG rfl rfl rfl rfl ?_
      refine TL.passG rfl rfl rfl rfl ?_
      refine TL.passG rfl rfl rfl rfl ?_
      refine TL.run1 (pure_pick_true rfl rfl) rfl ?_
      refine TL.run1 (pure_move rfl) rfl ?_
      refine TL.passG rfl rfl rfl rfl ?_
      refine TL.passG rfl rfl rfl rfl ?_
      refine TL.passG rfl rfl rfl rfl ?_
      refine TL.run1 (pure_pick_true rfl rfl) rfl ?_
      refine TL.run1 (pure_move rfl) rfl ?_
      refine TL.passG rfl rfl rfl rfl ?_
      refine TL.passG rfl rfl rfl rfl ?_
      refine TL.passG rfl rfl rfl rfl ?_
      refine TL.run1 (pure_pick_true rfl rfl) rfl ?_
      refine TL.run1 (pure_move rfl) rfl ?_
      refine TL.passG rfl rfl rfl rfl ?_
      refine TL.passG rfl rfl rfl rfl ?_
      refine TL.passG rfl rfl rfl rfl ?_
      refine TL.run1 (pure_pick_true rfl rfl) rfl ?_
      refine TL.cutEnd (by repeat (first | exact Same.refl _ _ | refine Same.put rfl ?_)) rfl ?_
      first | (simp only [decide_eq_true_eq, Bool.false_eq_true, false_iff, true_iff, iff_true, iff_false, Bool.not_eq_true]; omega) | (simp_all; done) | (simp_all; omega) | grind
    · try dsimp only at hg6
      first | refine TL.runG rfl rfl (pure_fieldAddr Ty.f23_0 rfl (.zero _) (List.cons_ne_nil _ _)) rfl ?_ | refine TL.runG rfl rfl (pure_fieldAddr_own Ty.f23_0 rfl) rfl ?_
      first | refine TL.runG rfl rfl (pure_load1 Ty.one3 rfl) rfl ?_ | refine TL.runG rfl rfl (pure_load1_own Ty.one3 rfl (by repeat (first | exact List.Mem.head _ | apply List.Mem.tail)) (by repeat (first | exact DropR.zero _ | apply DropR.succ))) rfl ?_
      refine TL.runG rfl rfl (pure_gtr rfl rfl) rfl ?_
      refine TL.run1 (pure_pick_false rfl rfl) rfl ?_
      refine TL.run1 (pure_move rfl) rfl ?_
      first | refine TL.splitP 11 rfl (fun hg11 => ?_) (fun hg11 => ?_) | refine TL.split 11 rfl (fun hg11 => ?_) (fun hg11 => ?_)
      · try dsimp only at hg11
        refine TL.passG rfl rfl rfl rfl ?_
        refine TL.passG rfl rfl rfl rfl ?_
        refine TL.passG rfl rfl rfl rfl ?_
        refine TL.run1 (pure_pick_true rfl rfl) rfl ?_
        refine TL.run1 (pure_move rfl) rfl ?_
        refine TL.passG rfl rfl rfl rfl ?_
        refine TL.passG rfl rfl rfl rfl ?_
        refine TL.passG rfl rfl rfl rfl ?_
        refine TL.run1 (pure_pick_true rfl rfl) rfl ?_
        refine TL.run1 (pure_move rfl) rfl ?_
        refine TL.passG rfl rfl rfl rfl ?_
        refine TL.passG rfl rfl rfl rfl ?_
        refine TL.passG rfl rfl rfl rfl ?_
        refine TL.run1 (pure_pick_true rfl rfl) rfl ?_
        refine TL.run1 (pure_move rfl) rfl ?_
        refine TL.passG rfl rfl rfl rfl ?_
        refine TL.passG rfl rfl rfl rfl ?_
        refine TL.passG rfl rfl rfl rfl ?_
        refine TL.run1 (pure_pick_true rfl rfl) rfl ?_
        refine TL.cutEnd (by repeat (first | exact Same.refl _ _ | refine Same.put rfl ?_)) rfl ?_
        first | (simp only [decide_eq_true_eq, Bool.false_eq_true, false_iff, true_iff, iff_true, iff_false, Bool.not_eq_true]; omega) | (simp_all; done) | (simp_all; omega) | grind
      · try dsimp only at hg11
        first | refine TL.runG rfl rfl (pure_fieldAddr Ty.f23_1 rfl (.succ (.zero _)) (List.cons_ne_nil _ _)) rfl ?_ | refine TL.runG rfl rfl (pure_fieldAddr_own Ty.f23_1 rfl) rfl ?_
        first | refine TL.runG rfl rfl (pure_load1 Ty.one3 rfl) rfl ?_ | refine TL.runG rfl rfl (pure_load1_own Ty.one3 rfl (by repeat (first | exact List.Mem.head _ | apply List.Mem.tail)) (by repeat (first | exact DropR.zero _ | apply DropR.succ))) rfl ?_
        refine TL.runG rfl rfl (pure_lss rfl rfl) rfl ?_
        refine TL.run1 (pure_pick_false rfl rfl) rfl ?_
        refine TL.run1 (pure_move rfl) rfl ?_
        first | refine TL.splitP 16 rfl (fun hg16 => ?_) (fun hg16 => ?_) | refine TL.split 16 rfl (fun hg16 => ?_) (fun hg16 => ?_)
        · try dsimp only at hg16
          refine TL.passG rfl rfl rfl rfl ?_
          refine TL.passG rfl rfl rfl rfl ?_
          refine TL.passG rfl rfl rfl rfl ?_
          refine TL.run1 (pure_pick_true rfl rfl) rfl ?_
          refine TL.run1 (pure_move rfl) rfl ?_
          refine TL.passG rfl rfl rfl rfl ?_
          refine TL.passG rfl rfl rfl rfl ?_
          refine TL.passG rfl rfl rfl rfl ?_
          refine TL.run1 (pure_pick_true rfl rfl) rfl ?_
          refine TL.run1 (pure_move rfl) rfl ?_
          refine TL.passG rfl rfl rfl rfl ?_
          refine TL.passG rfl rfl rfl rfl ?_
          refine TL.passG rfl rfl rfl rfl ?_
          refine TL.run1 (pure_pick_true rfl rfl) rfl ?_
          refine TL.cutEnd (by repeat (first | exact Same.refl _ _ | refine Same.put rfl ?_)) rfl ?_
          first | (simp only [decide_eq_true_eq, Bool.false_eq_true, false_iff, true_iff, iff_true, iff_false, Bool.not_eq_true]; omega) | (simp_all; done) | (simp_all; omega) | grind
        · try dsimp only at hg16
          first | refine TL.runG rfl rfl (pure_fieldAddr Ty.f23_1 rfl (.succ (.zero _)) (List.cons_ne_nil _ _)) rfl ?_ | refine TL.runG rfl rfl (pure_fieldAddr_own Ty.f23_1 rfl) rfl ?_
          first | refine TL.runG rfl rfl (pure_load1 Ty.one3 rfl) rfl ?_ | refine TL.runG rfl rfl (pure_load1_own Ty.one3 rfl (by repeat (first | exact List.Mem.head _ | apply List.Mem.tail)) (by repeat (first | exact DropR.zero _ | apply DropR.succ))) rfl ?_
          refine TL.runG rfl rfl (pure_gtr rfl rfl) rfl ?_
          refine TL.run1 (pure_pick_false rfl rfl) rfl ?_
          refine TL.run1 (pure_move rfl) rfl ?_
          first | refine TL.splitP 21 rfl (fun hg21 => ?_) (fun hg21 => ?_) | refine TL.split 21 rfl (fun hg21 => ?_) (fun hg21 => ?_)
          · try dsimp only at hg21
            refine TL.passG rfl rfl rfl rfl ?_
            refine TL.passG rfl rfl rfl rfl ?_
            refine TL.passG rfl rfl rfl rfl ?_
            refine TL.run1 (pure_pick_true rfl rfl) rfl ?_
            refine TL.run1 (pure_move rfl) rfl ?_
            refine TL.passG rfl rfl rfl rfl ?_
            refine TL.passG rfl rfl rfl rfl ?_
            refine TL.passG rfl rfl rfl rfl ?_
            refine TL.run1 (pure_pick_true rfl rfl) rfl ?_
            refine TL.cutEnd (by repeat (first | exact Same.refl _ _ | refine Same.put rfl ?_)) rfl ?_
            first | (simp only [decide_eq_true_eq, Bool.false_eq_true, false_iff, true_iff, iff_true, iff_false, Bool.not_eq_true]; omega) | (simp_all; done) | (simp_all; omega) | grind
          · try dsimp only at hg21
            first | refine TL.runG rfl rfl (pure_fieldAddr Ty.f23_2 rfl (.succ (.succ (.zero _))) (List.cons_ne_nil _ _)) rfl ?_ | refine TL.runG rfl rfl (pure_fieldAddr_own Ty.f23_2 rfl) rfl ?_
            first | refine TL.runG rfl rfl (pure_load1 Ty.one3 rfl) rfl ?_ | refine TL.runG rfl rfl (pure_load1_own Ty.one3 rfl (by repeat (first | exact List.Mem.head _ | apply List.Mem.tail)) (by repeat (first | exact DropR.zero _ | apply DropR.succ))) rfl ?_
            refine TL.runG rfl rfl (pure_lss rfl rfl) rfl ?_
            refine TL.run1 (pure_pick_false rfl rfl) rfl ?_
            refine TL.run1 (pure_move rfl) rfl ?_
            first | refine TL.splitP 26 rfl (fun hg26 => ?_) (fun hg26 => ?_) | refine TL.split 26 rfl (fun hg26 => ?_) (fun hg26 => ?_)
            · try dsimp only at hg26
              refine TL.passG rfl rfl rfl rfl ?_
              refine TL.passG rfl rfl rfl rfl ?_
              refine TL.passG rfl rfl rfl rfl ?_
              refine TL.run1 (pure_pick_true rfl rfl) rfl ?_
              refine TL.cutEnd (by repeat (first | exact Same.refl _ _ | refine Same.put rfl ?_)) rfl ?_
              first | (simp only [decide_eq_true_eq, Bool.false_eq_true, false_iff, true_iff, iff_true, iff_false, Bool.not_eq_true]; omega) | (simp_all; done) | (simp_all; omega) | grind
            · try dsimp only at hg26
              first | refine TL.runG rfl rfl (pure_fieldAddr Ty.f23_2 rfl (.succ (.succ (.zero _))) (List.cons_ne_nil _ _)) rfl ?_ | refine TL.runG rfl rfl (pure_fieldAddr_own Ty.f23_2 rfl) rfl ?_
              first | refine TL.runG rfl rfl (pure_load1 Ty.one3 rfl) rfl ?_ | refine TL.runG rfl rfl (pure_load1_own Ty.one3 rfl (by repeat (first | exact List.Mem.head _ | apply List.Mem.tail)) (by repeat (first | exact DropR.zero _ | apply DropR.succ))) rfl ?_
              refine TL.runG rfl rfl (pure_gtr rfl rfl) rfl ?_
              refine TL.run1 (pure_pick_false rfl rfl) rfl ?_
              refine TL.cutEnd (by repeat (first | exact Same.refl _ _ | refine Same.put rfl ?_)) rfl ?_
              first | (simp only [decide_eq_true_eq, Bool.false_eq_true, false_iff, true_iff, iff_true, iff_false, Bool.not_eq_true]; omega) | (simp_all; done) | (simp_all; omega) | grind
  first | refine TC.condD rfl (fun hc30 => ?_) (fun hc30 => ?_) | refine TC.condN rfl (fun hc30 => ?_) (fun hc30 => ?_) | refine TC.cond rfl (fun hc30 => ?_) (fun hc30 => ?_)
  · try dsimp only at hc30
    refine TC.seq ?_
    refine TC.region ?_
    refine TL.run1 (pure_assign rfl) rfl ?_
    refine TL.nil' ?_
    refine TC.ret ?_
    refine then_ret ?_
    exact ret_int rfl (by unfold errF; rw [if_pos (show FBad f from hc30)])
  · try dsimp only at hc30
    refine TC.skip' ?_
    refine TC.seq ?_
    refine TC.region ?_
    refine TL.run1 (pure_assign rfl) rfl ?_
    refine TL.nil' ?_
    refine TC.ret ?_
    exact ret_int rfl (by unfold errF; rw [if_neg (show ¬ FBad f from hc30)])
set_option maxRecDepth 100000 in
theorem check_spec (f : Fo) : Fun Tryd.prog 16 [.agg [.v (.int .i64 f.face), .v (.int .i64 f.size), .v (.int .i64 f.raise), .v (.bool f.bold)]] (.v (.int .i64 (errF f))) := by
  refine Fun.enter (n := 31) (rs := [.tmp 2]) Tryd.func16 rfl Tryd.ntmps16 Tryd.results16 rfl (fun w F => ?_)
  refine TC.seq ?_
  refine TC.region ?_
  refine TL.box rfl (.agg _) rfl (fun g1 => ?_)
  refine TL.run1 (pure_assign rfl) rfl ?_
  refine TL.nil' ?_
  refine TC.seq ?_
  refine TC.regionCut [3, 4, 5, 6, 7, 8, 9, 10, 11, 12, 13, 14, 15, 16, 17, 18, 19, 20, 21, 22, 23, 24, 25, 26, 27, 28, 29, 30] 30 (f.face < 0 ∨ f.face > 63 ∨ f.size < 2 ∨ f.size > 1638 ∨ f.raise < -400 ∨ f.raise > 400) ?_ ?_
  · skip
    first | refine TL.run1 (pure_fieldAddr Ty.f23_0 rfl (.zero _) (List.cons_ne_nil _ _)) rfl ?_ | refine TL.run1 (pure_fieldAddr_own Ty.f23_0 rfl) rfl ?_
    first | refine TL.run1 (pure_load1 Ty.one3 rfl) rfl ?_ | refine TL.run1 (pure_load1_own Ty.one3 rfl (by repeat (first | exact List.Mem.head _ | apply List.Mem.tail)) (by repeat (first | exact DropR.zero _ | apply DropR.succ))) rfl ?_
    refine TL.run1 (pure_lss rfl rfl) rfl ?_
    refine TL.run1 (pure_move rfl) rfl ?_
    first | refine TL.splitP 6 rfl (fun hg6 => ?_) (fun hg6 => ?_) | refine TL.split 6 rfl (fun hg6 => ?_) (fun hg6 => ?_)
    · try dsimp only at hg6
      refine TL.passG rfl rfl rfl rfl ?_
      refine TL.passG rfl rfl rfl rfl ?_
      refine TL.passG rfl rfl rfl rfl ?_
      refine TL.run1 (pure_pick_true rfl rfl) rfl ?_
      refine TL.run1 (pure_move rfl) rfl ?_
      refine TL.passG rfl rfl rfl rfl ?_
      refine TL.passG rfl rfl rfl rfl ?_
      refine TL.passG rfl rfl rfl rfl ?_
      refine TL.run1 (pure_pick_true rfl rfl) rfl ?_
      refine TL.run1 (pure_move rfl) rfl ?_
      refine TL.passG rfl rfl rfl rfl ?_
      refine TL.passG rfl rfl rfl rfl ?_
      refine TL.passG rfl rfl rfl rfl ?_
      refine TL.run1 (pure_pick_true rfl rfl) rfl ?_
      refine TL.run1 (pure_move rfl) rfl ?_
      refine TL.passG rfl rfl rfl rfl ?_
      refine TL.passG rfl rfl rfl rfl ?_
      refine TL.passG rfl rfl rfl rfl ?_
      refine TL.run1 (pure_pick_true rfl rfl) rfl ?_
      refine TL.run1 (pure_move rfl) rfl ?_
      refine TL.passG rfl rfl rfl rfl ?_
      refine TL.passG rfl rfl rfl rfl ?_
      refine TL.passG rfl rfl rfl rfl ?_
      refine TL.run1 (pure_pick_true rfl rfl) rfl ?_
      refine TL.cutEnd (by repeat (first | exact Same.refl _ _ | refine Same.put rfl ?_)) rfl ?_
      first | (simp only [decide_eq_true_eq, Bool.false_eq_true, false_iff, true_iff, iff_true, iff_false, Bool.not_eq_true]; omega) | (simp_all; done) | (simp_all; omega) | grind
    · try dsimp only at hg6
      first | refine TL.runG rfl rfl (pure_fieldAddr Ty.f23_0 rfl (.zero _) (List.cons_ne_nil _ _)) rfl ?_ | refine TL.runG rfl rfl (pure_fieldAddr_own Ty.f23_0 rfl) rfl ?_
      first | refine TL.runG rfl rfl (pure_load1 Ty.one3 rfl) rfl ?_ | refine TL.runG rfl rfl (pure_load1_own Ty.one3 rfl (by repeat (first | exact List.Mem.head _ | apply List.Mem.tail)) (by repeat (first | exact DropR.zero _ | apply DropR.succ))) rfl ?_
      refine TL.runG rfl rfl (pure_gtr rfl rfl) rfl ?_
      refine TL.run1 (pure_pick_false rfl rfl) rfl ?_
      refine TL.run1 (pure_move rfl) rfl ?_
      first | refine TL.splitP 11 rfl (fun hg11 => ?_) (fun hg11 => ?_) | refine TL.split 11 rfl (fun hg11 => ?_) (fun hg11 => ?_)
      · try dsimp only at hg11
        refine TL.passG rfl rfl rfl rfl ?_
        refine TL.passG rfl rfl rfl rfl ?_
        refine TL.passG rfl rfl rfl rfl ?_
        refine TL.run1 (pure_pick_true rfl rfl) rfl ?_
        refine TL.run1 (pure_move rfl) rfl ?_
        refine TL.passG rfl rfl rfl rfl ?_
        refine TL.passG rfl rfl rfl rfl ?_
        refine TL.passG rfl rfl rfl rfl ?_
        refine TL.run1 (pure_pick_true rfl rfl) rfl ?_
        refine TL.run1 (pure_move rfl) rfl ?_
        refine TL.passG rfl rfl rfl rfl ?_
        refine TL.passG rfl rfl rfl rfl ?_
        refine TL.passG rfl rfl rfl rfl ?_
        refine TL.run1 (pure_pick_true rfl rfl) rfl ?_
        refine TL.run1 (pure_move rfl) rfl ?_
        refine TL.passG rfl rfl rfl rfl ?_
        refine TL.passG rfl rfl rfl rfl ?_
        refine TL.passG rfl rfl rfl rfl ?_
        refine TL.run1 (pure_pick_true rfl rfl) rfl ?_
        refine TL.cutEnd (by repeat (first | exact Same.refl _ _ | refine Same.put rfl ?_)) rfl ?_
        first | (simp only [decide_eq_true_eq, Bool.false_eq_true, false_iff, true_iff, iff_true, iff_false, Bool.not_eq_true]; omega) | (simp_all; done) | (simp_all; omega) | grind
      · try dsimp only at hg11
        first | refine TL.runG rfl rfl (pure_fieldAddr Ty.f23_1 rfl (.succ (.zero _)) (List.cons_ne_nil _ _)) rfl ?_ | refine TL.runG rfl rfl (pure_fieldAddr_own Ty.f23_1 rfl) rfl ?_
        first | refine TL.runG rfl rfl (pure_load1 Ty.one3 rfl) rfl ?_ | refine TL.runG rfl rfl (pure_load1_own Ty.one3 rfl (by repeat (first | exact List.Mem.head _ | apply List.Mem.tail)) (by repeat (first | exact DropR.zero _ | apply DropR.succ))) rfl ?_
        refine TL.runG rfl rfl (pure_lss rfl rfl) rfl ?_
        refine TL.run1 (pure_pick_false rfl rfl) rfl ?_
        refine TL.run1 (pure_move rfl) rfl ?_
        first | refine TL.splitP 16 rfl (fun hg16 => ?_) (fun hg16 => ?_) | refine TL.split 16 rfl (fun hg16 => ?_) (fun hg16 => ?_)
        · try dsimp only at hg16
          refine TL.passG rfl rfl rfl rfl ?_
          refine TL.passG rfl rfl rfl rfl ?_
          refine TL.passG rfl rfl rfl rfl ?_
          refine TL.run1 (pure_pick_true rfl rfl) rfl ?_
          refine TL.run1 (pure_move rfl) rfl ?_
          refine TL.passG rfl rfl rfl rfl ?_
          refine TL.passG rfl rfl rfl rfl ?_
          refine TL.passG rfl rfl rfl rfl ?_
          refine TL.run1 (pure_pick_true rfl rfl) rfl ?_
          refine TL.run1 (pure_move rfl) rfl ?_
          refine TL.passG rfl rfl rfl rfl ?_
          refine TL.passG rfl rfl rfl rfl ?_
          refine TL.passG rfl rfl rfl rfl ?_
          refine TL.run1 (pure_pick_true rfl rfl) rfl ?_
          refine TL.cutEnd (by repeat (first | exact Same.refl _ _ | refine Same.put rfl ?_)) rfl ?_
          first | (simp only [decide_eq_true_eq, Bool.false_eq_true, false_iff, true_iff, iff_true, iff_false, Bool.not_eq_true]; omega) | (simp_all; done) | (simp_all; omega) | grind
        · try dsimp only at hg16
          first | refine TL.runG rfl rfl (pure_fieldAddr Ty.f23_1 rfl (.succ (.zero _)) (List.cons_ne_nil _ _)) rfl ?_ | refine TL.runG rfl rfl (pure_fieldAddr_own Ty.f23_1 rfl) rfl ?_
          first | refine TL.runG rfl rfl (pure_load1 Ty.one3 rfl) rfl ?_ | refine TL.runG rfl rfl (pure_load1_own Ty.one3 rfl (by repeat (first | exact List.Mem.head _ | apply List.Mem.tail)) (by repeat (first | exact DropR.zero _ | apply DropR.succ))) rfl ?_
          refine TL.runG rfl rfl (pure_gtr rfl rfl) rfl ?_
          refine TL.run1 (pure_pick_false rfl rfl) rfl ?_
          refine TL.run1 (pure_move rfl) rfl ?_
          first | refine TL.splitP 21 rfl (fun hg21 => ?_) (fun hg21 => ?_) | refine TL.split 21 rfl (fun hg21 => ?_) (fun hg21 => ?_)
          · try dsimp only at hg21
            refine TL.passG rfl rfl rfl rfl ?_
            refine TL.passG rfl rfl rfl rfl ?_
            refine TL.passG rfl rfl rfl rfl ?_
            refine TL.run1 (pure_pick_true rfl rfl) rfl ?_
            refine TL.run1 (pure_move rfl) rfl ?_
            refine TL.passG rfl rfl rfl rfl ?_
            refine TL.passG rfl rfl rfl rfl ?_
            refine TL.passG rfl rfl rfl rfl ?_
            refine TL.run1 (pure_pick_true rfl rfl) rfl ?_
            refine TL.cutEnd (by repeat (first | exact Same.refl _ _ | refine Same.put rfl ?_)) rfl ?_
            first | (simp only [decide_eq_true_eq, Bool.false_eq_true, false_iff, true_iff, iff_true, iff_false, Bool.not_eq_true]; omega) | (simp_all; done) | (simp_all; omega) | grind
          · try dsimp only at hg21
            first | refine TL.runG rfl rfl (pure_fieldAddr Ty.f23_2 rfl (.succ (.succ (.zero _))) (List.cons_ne_nil _ _)) rfl ?_ | refine TL.runG rfl rfl (pure_fieldAddr_own Ty.f23_2 rfl) rfl ?_
            first | refine TL.runG rfl rfl (pure_load1 Ty.one3 rfl) rfl ?_ | refine TL.runG rfl rfl (pure_load1_own Ty.one3 rfl (by repeat (first | exact List.Mem.head _ | apply List.Mem.tail)) (by repeat (first | exact DropR.zero _ | apply DropR.succ))) rfl ?_
            refine TL.runG rfl rfl (pure_lss rfl rfl) rfl ?_
            refine TL.run1 (pure_pick_false rfl rfl) rfl ?_
            refine TL.run1 (pure_move rfl) rfl ?_
            first | refine TL.splitP 26 rfl (fun hg26 => ?_) (fun hg26 => ?_) | refine TL.split 26 rfl (fun hg26 => ?_) (fun hg26 => ?_)
            · try dsimp only at hg26
              refine TL.passG rfl rfl rfl rfl ?_
              refine TL.passG rfl rfl rfl rfl ?_
              refine TL.passG rfl rfl rfl rfl ?_
              refine TL.run1 (pure_pick_true rfl rfl) rfl ?_
              refine TL.cutEnd (by repeat (first | exact Same.refl _ _ | refine Same.put rfl ?_)) rfl ?_
              first | (simp only [decide_eq_true_eq, Bool.false_eq_true, false_iff, true_iff, iff_true, iff_false, Bool.not_eq_true]; omega) | (simp_all; done) | (simp_all; omega) | grind
            · try dsimp only at hg26
              first | refine TL.runG rfl rfl (pure_fieldAddr Ty.f23_2 rfl (.succ (.succ (.zero _))) (List.cons_ne_nil _ _)) rfl ?_ | refine TL.runG rfl rfl (pure_fieldAddr_own Ty.f23_2 rfl) rfl ?_
              first | refine TL.runG rfl rfl (pure_load1 Ty.one3 rfl) rfl ?_ | refine TL.runG rfl rfl (pure_load1_own Ty.one3 rfl (by repeat (first | exact List.Mem.head _ | apply List.Mem.tail)) (by repeat (first | exact DropR.zero _ | apply DropR.succ))) rfl ?_
              refine TL.runG rfl rfl (pure_gtr rfl rfl) rfl ?_
              refine TL.run1 (pure_pick_false rfl rfl) rfl ?_
              refine TL.cutEnd (by repeat (first | exact Same.refl _ _ | refine Same.put rfl ?_)) rfl ?_
              first | (simp only [decide_eq_true_eq, Bool.false_eq_true, false_iff, true_iff, iff_true, iff_false, Bool.not_eq_true]; omega) | (simp_all; done) | (simp_all; omega) | grind
  first | refine TC.condD rfl (fun hc30 => ?_) (fun hc30 => ?_) | refine TC.condN rfl (fun hc30 => ?_) (fun hc30 => ?_) | refine TC.cond rfl (fun hc30 => ?_) (fun hc30 => ?_)
  · try dsimp only at hc30
    refine TC.seq ?_
    refine TC.region ?_
    refine TL.run1 (pure_assign rfl) rfl ?_
    refine TL.nil' ?_
    refine TC.ret ?_
    refine then_ret ?_
    exact ret_int rfl (by unfold errF; rw [if_pos (show FBad f from hc30)])
  · try dsimp only at hc30
    refine TC.skip' ?_
    refine TC.seq ?_
    refine TC.region ?_
    refine TL.run1 (pure_assign rfl) rfl ?_
    refine TL.nil' ?_
    refine TC.ret ?_
    exact ret_int rfl (by unfold errF; rw [if_neg (show ¬ FBad f from hc30)])
set_option maxRecDepth 100000 in
theorem em_spec (f : Fo) (hf : ¬ FBad f) : Fun Tryd.prog 42 [.agg [.v (.int .i64 f.face), .v (.int .i64 f.size), .v (.int .i64 f.raise), .v (.bool f.bold)]] (.v (.int .i64 (10 * f.size))) := by
  refine Fun.enter (n := 6) (rs := [.tmp 2]) Tryd.func42 rfl Tryd.ntmps42 Tryd.results42 rfl (fun w F => ?_)
  unfold FBad at hf
  refine TC.seq ?_
  refine TC.region ?_
  refine TL.box rfl (.agg _) rfl (fun g1 => ?_)
  refine TL.run1 (pure_assign rfl) rfl ?_
  refine TL.nil' ?_
  refine TC.seq ?_
  refine TC.region ?_
  first | refine TL.run1 (pure_fieldAddr Ty.f23_1 rfl (.succ (.zero _)) (List.cons_ne_nil _ _)) rfl ?_ | refine TL.run1 (pure_fieldAddr_own Ty.f23_1 rfl) rfl ?_
  first | refine TL.run1 (pure_load1 Ty.one3 rfl) rfl ?_ | refine TL.run1 (pure_load1_own Ty.one3 rfl (by repeat (first | exact List.Mem.head _ | apply List.Mem.tail)) (by repeat (first | exact DropR.zero _ | apply DropR.succ))) rfl ?_
  refine TL.run1 (pure_mul rfl rfl (mkI64 (by omega) (by omega))) rfl ?_
  refine TL.run1 (pure_assign rfl) rfl ?_
  refine TL.nil' ?_
  refine TC.ret ?_
  exact ret_int rfl rfl
set_option maxRecDepth 100000 in
theorem prop_spec (f : Fo) (hf : ¬ FBad f) : Fun Tryd.prog 48 [.agg [.v (.int .i64 f.face), .v (.int .i64 f.size), .v (.int .i64 f.raise), .v (.bool f.bold)]] (.v (.bool (decide (f.face % 2 = 0)))) := by
  refine Fun.enter (n := 7) (rs := [.tmp 2]) Tryd.func48 rfl Tryd.ntmps48 Tryd.results48 rfl (fun w F => ?_)
  unfold FBad at hf
  refine TC.seq ?_
  refine TC.region ?_
  refine TL.box rfl (.agg _) rfl (fun g1 => ?_)
  refine TL.run1 (pure_assign rfl) rfl ?_
  refine TL.nil' ?_
  refine TC.seq ?_
  refine TC.region ?_
  first | refine TL.run1 (pure_fieldAddr Ty.f23_0 rfl (.zero _) (List.cons_ne_nil _ _)) rfl ?_ | refine TL.run1 (pure_fieldAddr_own Ty.f23_0 rfl) rfl ?_
  first | refine TL.run1 (pure_load1 Ty.one3 rfl) rfl ?_ | refine TL.run1 (pure_load1_own Ty.one3 rfl (by repeat (first | exact List.Mem.head _ | apply List.Mem.tail)) (by repeat (first | exact DropR.zero _ | apply DropR.succ))) rfl ?_
  refine TL.run1 (pure_rem rfl rfl (by omega) (by omega)) rfl ?_
  refine TL.run1 (pure_eql rfl rfl) rfl ?_
  refine TL.run1 (pure_assign rfl) rfl ?_
  refine TL.nil' ?_
  refine TC.ret ?_
  exact ret_bool rfl rfl
set_option maxRecDepth 100000 in
theorem wide_spec (f : Fo) (hf : ¬ FBad f) : Fun Tryd.prog 66 [.agg [.v (.int .i64 f.face), .v (.int .i64 f.size), .v (.int .i64 f.raise), .v (.bool f.bold)]] (.v (.int .i64 (wideP f))) := by
  refine Fun.enter (n := 5) (rs := [.tmp 2]) Tryd.func66 rfl Tryd.ntmps66 Tryd.results66 rfl (fun w F => ?_)
  refine TC.seq ?_
  refine TC.region ?_
  refine TL.box rfl (.agg _) rfl (fun g1 => ?_)
  refine TL.run1 (pure_assign rfl) rfl ?_
  refine TL.nil' ?_
  refine TC.seq ?_
  refine TC.seq ?_
  refine TC.region ?_
  first | refine TL.run1 (pure_load Ty.agg23 rfl (.succ (.succ (.succ (.succ (.zero _)))))) rfl ?_ | refine TL.run1 (pure_load_own Ty.agg23 rfl (by repeat (first | exact List.Mem.head _ | apply List.Mem.tail)) (by repeat (first | exact DropR.zero _ | apply DropR.succ)) (.succ (.succ (.succ (.succ (.zero _)))))) rfl ?_
  refine TL.run1 (pure_call (prop_spec f hf) (.cons rfl .nil) Tryd.call48) rfl ?_
  refine TL.nil' ?_
  first | refine TC.condD rfl (fun hc4 => ?_) (fun hc4 => ?_) | refine TC.condN rfl (fun hc4 => ?_) (fun hc4 => ?_) | refine TC.cond rfl (fun hc4 => ?_) (fun hc4 => ?_)
  · try dsimp only at hc4
    refine TC.seq ?_
    refine TC.region ?_
    refine TL.run1 (pure_assign rfl) rfl ?_
    refine TL.nil' ?_
    refine TC.ret ?_
    refine then_ret ?_
    exact ret_int rfl (by unfold wideP; rw [if_pos hc4])
  · try dsimp only at hc4
    refine TC.skip' ?_
    refine TC.seq ?_
    refine TC.region ?_
    refine TL.run1 (pure_assign rfl) rfl ?_
    refine TL.nil' ?_
    refine TC.ret ?_
    exact ret_int rfl (by unfold wideP; rw [if_neg hc4])
set_option maxRecDepth 100000 in
theorem scaled_spec (f : Fo) (n : Int) (hf : ¬ FBad f) (h0 : 0 ≤ n) (h1 : n ≤ 2000) : Fun Tryd.prog 49 [.agg [.v (.int .i64 f.face), .v (.int .i64 f.size), .v (.int .i64 f.raise), .v (.bool f.bold)], .v (.int .i64 n)] (.v (.int .i64 (scP f n))) := by
  refine Fun.enter (n := 11) (rs := [.tmp 4]) Tryd.func49 rfl Tryd.ntmps49 Tryd.results49 rfl (fun w F => ?_)
  have hm := scP_mul hf h0 h1
  refine TC.seq ?_
  refine TC.region ?_
  refine TL.box rfl (.agg _) rfl (fun g2 => ?_)
  refine TL.run1 (pure_assign rfl) rfl ?_
  refine TL.nil' ?_
  refine TC.seq ?_
  refine TC.region ?_
  refine TL.run1 (pure_move rfl) rfl ?_
  first | refine TL.run1 (pure_load Ty.agg23 rfl (.succ (.succ (.succ (.succ (.zero _)))))) rfl ?_ | refine TL.run1 (pure_load_own Ty.agg23 rfl (by repeat (first | exact List.Mem.head _ | apply List.Mem.tail)) (by repeat (first | exact DropR.zero _ | apply DropR.succ)) (.succ (.succ (.succ (.succ (.zero _)))))) rfl ?_
  refine TL.run1 (pure_call (em_spec f hf) (.cons rfl .nil) Tryd.call42) rfl ?_
  refine TL.run1 (pure_mul rfl rfl (mkI64 (by omega) (by omega))) rfl ?_
  refine TL.run1 (pure_add rfl rfl (mkI64 (by omega) (by omega))) rfl ?_
  refine TL.run1 (pure_quo rfl rfl (by omega) (by omega) (by omega)) rfl ?_
  refine TL.run1 (pure_assign rfl) rfl ?_
  refine TL.nil' ?_
  refine TC.ret ?_
  exact ret_int rfl rfl
set_option maxRecDepth 100000 in
theorem scale_spec (f : Fo) (n : Int) (hf : ¬ FBad f) (h0 : 0 ≤ n) (h1 : n ≤ 2000) : Fun Tryd.prog 37 [.agg [.v (.int .i64 f.face), .v (.int .i64 f.size), .v (.int .i64 f.raise), .v (.bool f.bold)], .v (.int .i64 n)] (.v (.int .i64 (scP f n))) := by
  refine Fun.enter (n := 12) (rs := [.tmp 4]) Tryd.func37 rfl Tryd.ntmps37 Tryd.results37 rfl (fun w F => ?_)
  have hm := scP_mul hf h0 h1
  have he : n * 10 * f.size = n * (10 * f.size) := Int.mul_assoc n 10 f.size
  unfold FBad at hf
  refine TC.seq ?_
  refine TC.region ?_
  refine TL.box rfl (.agg _) rfl (fun g2 => ?_)
  refine TL.run1 (pure_assign rfl) rfl ?_
  refine TL.nil' ?_
  refine TC.seq ?_
  refine TC.region ?_
  refine TL.run1 (pure_move rfl) rfl ?_
  refine TL.run1 (pure_mul rfl rfl (mkI64 (by omega) (by omega))) rfl ?_
  first | refine TL.run1 (pure_fieldAddr Ty.f23_1 rfl (.succ (.zero _)) (List.cons_ne_nil _ _)) rfl ?_ | refine TL.run1 (pure_fieldAddr_own Ty.f23_1 rfl) rfl ?_
  first | refine TL.run1 (pure_load1 Ty.one3 rfl) rfl ?_ | refine TL.run1 (pure_load1_own Ty.one3 rfl (by repeat (first | exact List.Mem.head _ | apply List.Mem.tail)) (by repeat (first | exact DropR.zero _ | apply DropR.succ))) rfl ?_
  refine TL.run1 (pure_mul rfl rfl (mkI64 (by omega) (by omega))) rfl ?_
  refine TL.run1 (pure_add rfl rfl (mkI64 (by omega) (by omega))) rfl ?_
  refine TL.run1 (pure_quo rfl rfl (by omega) (by omega) (by omega)) rfl ?_
  refine TL.run1 (pure_assign rfl) rfl ?_
  refine TL.nil' ?_
  refine TC.ret ?_
  exact ret_int rfl (by unfold scP; rw [he])
set_option maxRecDepth 100000 in
theorem IndexByte0_spec (s : ByteArray) (c : Int) : Fun Tryd.prog 82 [.v (.string s), .v (.int .u8 c)] (.v (.int .i64 (firstIdx s c.toNat.toUInt8))) := by
  refine Fun.enter (n := 8) (rs := [.tmp 4]) Tryd.func82 rfl Tryd.ntmps82 Tryd.results82 rfl (fun w F => ?_)
  refine TC.seq ?_
  refine TC.region ?_
  refine TL.run1 (pure_assign rfl) rfl ?_
  refine TL.nil' ?_
  refine TC.seq ?_
  refine TC.region ?_
  refine TL.run1 (pure_move rfl) rfl ?_
  refine TL.run1 (pure_move rfl) rfl ?_
  refine TL.run1 (pure_indexByteString Tryd.func83 (by kernel_rfl) (by kernel_rfl) (by kernel_rfl) (by kernel_rfl) rfl rfl) rfl ?_
  refine TL.run1 (pure_assign rfl) rfl ?_
  refine TL.nil' ?_
  refine TC.ret ?_
  exact ret_int rfl rfl
set_option maxRecDepth 100000 in
theorem IndexByte_spec (s : ByteArray) (c : Int) : Fun Tryd.prog 78 [.v (.string s), .v (.int .u8 c)] (.v (.int .i64 (firstIdx s c.toNat.toUInt8))) := by
  refine Fun.enter (n := 8) (rs := [.tmp 4]) Tryd.func78 rfl Tryd.ntmps78 Tryd.results78 rfl (fun w F => ?_)
  refine TC.seq ?_
  refine TC.region ?_
  refine TL.run1 (pure_assign rfl) rfl ?_
  refine TL.nil' ?_
  refine TC.seq ?_
  refine TC.region ?_
  refine TL.run1 (pure_move rfl) rfl ?_
  refine TL.run1 (pure_move rfl) rfl ?_
  refine TL.run1 (pure_call (IndexByte0_spec s c) (.cons rfl (.cons rfl .nil)) Tryd.call82) rfl ?_
  refine TL.run1 (pure_assign rfl) rfl ?_
  refine TL.nil' ?_
  refine TC.ret ?_
  exact ret_int rfl rfl
set_option maxRecDepth 100000 in
theorem IndexRune_spec (s : ByteArray) (r : Int) (h0 : 0 ≤ r) (h1 : r < 128) : Fun Tryd.prog 75 [.v (.string s), .v (.int .i32 r)] (.v (.int .i64 (firstIdx s r.toNat.toUInt8))) := by
  refine Fun.enter (n := 187) (rs := [.tmp 4]) Tryd.func75 rfl Tryd.ntmps75 Tryd.results75 rfl (fun w F => ?_)
  refine TC.seq ?_
  refine TC.region ?_
  refine TL.run1 (pure_assign rfl) rfl ?_
  refine TL.nil' ?_
  refine TC.block ?_
  refine TC.regionCut [161, 162, 163, 164, 165, 166, 160] 160 (0 ≤ r ∧ r < 128) ?_ ?_
  · skip
    refine TL.run1 (pure_move rfl) rfl ?_
    refine TL.run1 (pure_leq rfl rfl) rfl ?_
    refine TL.run1 (pure_move rfl) rfl ?_
    first | refine TL.splitP 163 rfl (fun hg163 => ?_) (fun hg163 => ?_) | refine TL.split 163 rfl (fun hg163 => ?_) (fun hg163 => ?_)
    · try dsimp only at hg163
      refine TL.runG rfl rfl (pure_move rfl) rfl ?_
      refine TL.runG rfl rfl (pure_lss rfl rfl) rfl ?_
      refine TL.run1 (pure_pick_true rfl rfl) rfl ?_
      refine TL.run1 (pure_assign rfl) rfl ?_
      refine TL.cutEnd (by repeat (first | exact Same.refl _ _ | refine Same.put rfl ?_)) rfl ?_
      first | (simp only [decide_eq_true_eq, Bool.false_eq_true, false_iff, true_iff, iff_true, iff_false, Bool.not_eq_true]; omega) | (simp_all; done) | (simp_all; omega) | grind
    · try dsimp only at hg163
      refine TL.passG rfl rfl rfl rfl ?_
      refine TL.passG rfl rfl rfl rfl ?_
      refine TL.run1 (pure_pick_false rfl rfl) rfl ?_
      refine TL.run1 (pure_assign rfl) rfl ?_
      refine TL.cutEnd (by repeat (first | exact Same.refl _ _ | refine Same.put rfl ?_)) rfl ?_
      first | (simp only [decide_eq_true_eq, Bool.false_eq_true, false_iff, true_iff, iff_true, iff_false, Bool.not_eq_true]; omega) | (simp_all; done) | (simp_all; omega) | grind
  first | refine TC.condD rfl (fun hc160 => ?_) (fun hc160 => ?_) | refine TC.condN rfl (fun hc160 => ?_) (fun hc160 => ?_) | refine TC.cond rfl (fun hc160 => ?_) (fun hc160 => ?_)
  · try dsimp only at hc160
    refine TC.seq ?_
    refine TC.region ?_
    refine TL.run1 (pure_move rfl) rfl ?_
    refine TL.run1 (pure_move rfl) rfl ?_
    refine TL.run1 (pure_conv Tryd.underlying21 Tryd.underlying5 rfl (fit_u8 (by omega) (by omega))) rfl ?_
    refine TL.run1 (pure_call (IndexByte_spec s r) (.cons rfl (.cons rfl .nil)) Tryd.call78) rfl ?_
    refine TL.run1 (pure_assign rfl) rfl ?_
    refine TL.nil' ?_
    refine TC.ret ?_
    refine block_ret ?_
    exact ret_int rfl rfl
  · try dsimp only at hc160
    exact absurd ⟨h0, h1⟩ hc160
set_option maxRecDepth 100000 in
theorem ContainsRune_spec (s : ByteArray) (r : Int) (h0 : 0 ≤ r) (h1 : r < 128) : Fun Tryd.prog 67 [.v (.string s), .v (.int .i32 r)] (.v (.bool (decide (firstIdx s r.toNat.toUInt8 ≥ 0)))) := by
  refine Fun.enter (n := 9) (rs := [.tmp 4]) Tryd.func67 rfl Tryd.ntmps67 Tryd.results67 rfl (fun w F => ?_)
  refine TC.seq ?_
  refine TC.region ?_
  refine TL.run1 (pure_assign rfl) rfl ?_
  refine TL.nil' ?_
  refine TC.seq ?_
  refine TC.region ?_
  refine TL.run1 (pure_move rfl) rfl ?_
  refine TL.run1 (pure_move rfl) rfl ?_
  refine TL.run1 (pure_call (IndexRune_spec s r h0 h1) (.cons rfl (.cons rfl .nil)) Tryd.call75) rfl ?_
  refine TL.run1 (pure_geq rfl rfl) rfl ?_
  refine TL.run1 (pure_assign rfl) rfl ?_
  refine TL.nil' ?_
  refine TC.ret ?_
  exact ret_bool rfl rfl
end Go.Ob
