import Derived.Test.YtcfnfioefbkamaaDoorM
import Derived.Test.YtcfnfioefbkamaaDoorProg
import Derived.Shelf.Unicode.ValidAny
set_option linter.unusedVariables false
set_option linter.unusedSimpArgs false
namespace Go.Ob
open Go.Proofs Go.Shelf
def renV : Ren := { f := fun x => match x with | 196 => 79 | 259 => 90 | n => n, t := fun x => match x with | 9 => 9 | 4 => 4 | 3 => 3 | 5 => 5 | 12 => 12 | 119 => 124 | 0 => 0 | 46 => 119 | 139 => 127 | 138 => 126 | 53 => 137 | n => n, g := fun x => match x with | 3 => 0 | 4 => 1 | n => n }
theorem laysV : Lays.n196 Tryd.prog renV :=
  { mixed := by kernel_rfl, f196 := Eq.trans Tryd.func79 (congrArg some (by kernel_rfl)), f259 := Eq.trans Tryd.func90 (congrArg some (by kernel_rfl)),
    t0 := Tryd.underlying0, a0 := Tryd.isAgg0, z0 := Tryd.sizeOf0, v0 := Tryd.zeroValue0,
    t3 := Tryd.underlying3, a3 := Tryd.isAgg3, z3 := Tryd.sizeOf3, v3 := Tryd.zeroValue3,
    t4 := Tryd.underlying4, a4 := Tryd.isAgg4, z4 := Tryd.sizeOf4, v4 := Tryd.zeroValue4,
    t5 := Tryd.underlying5, a5 := Tryd.isAgg5, z5 := Tryd.sizeOf5, v5 := Tryd.zeroValue5,
    t9 := Tryd.underlying9, a9 := Tryd.isAgg9, z9 := Tryd.sizeOf9, v9 := Tryd.zeroValue9,
    t12 := Tryd.underlying12, a12 := Tryd.isAgg12, z12 := Tryd.sizeOf12, v12 := Tryd.zeroValue12,
    t46 := Tryd.underlying119, a46 := Tryd.isAgg119, z46 := Tryd.sizeOf119, v46 := Tryd.zeroValue119,
    t53 := Tryd.underlying137, a53 := Tryd.isAgg137, z53 := Tryd.sizeOf137, v53 := Tryd.zeroValue137,
    t119 := Tryd.underlying124, a119 := Tryd.isAgg124, z119 := Tryd.sizeOf124, 
    t138 := Tryd.underlying126, a138 := Tryd.isAgg126, z138 := Tryd.sizeOf126, v138 := Tryd.zeroValue126,
    t139 := Tryd.underlying127, a139 := Tryd.isAgg127, z139 := Tryd.sizeOf127, v139 := Tryd.zeroValue127,
    g3 := by kernel_rfl, g4 := by kernel_rfl }

theorem valid_spec (s : ByteArray) (hs : s.size ≤ 1000000000) : Fun Tryd.prog 79 [.v (.string s)] (.v (.bool (okS s))) := by
  intro w F vs hl hr hh hF
  have hv : vs = [.string s] := by
    match vs, hl, hr with
    | [u], _, hr => rw [Rep.of_v (hr 0 _ u rfl rfl)]
  subst hv
  have ht := (hF.glob.tabs (renV.g 3) (renV.g 4) (by kernel_rfl) (by kernel_rfl)).1
  refine (Any.utf8_ValidString laysV s w (by omega) ht).mono ?_
  rintro e w' ⟨rfl, hb⟩
  refine ⟨_, _, [], rfl, ⟨rfl, rfl⟩, ?_, HeapOK.nil _ _, Kept.of_below _ hb, fun g hg => absurd hg (own_nil g)⟩
  rw [okS_valid]
  exact .v _
end Go.Ob
