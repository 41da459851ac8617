import Derived.Test.YtkedjbommcfhiaaDoorM
import Derived.Test.YtkedjbommcfhiaaDoorProg
import Derived.Shelf.Unicode.ValidAny
set_option linter.unusedVariables false
set_option linter.unusedSimpArgs false
namespace Go.Ob
open Go.Proofs Go.Shelf
def renV : Ren := { f := fun x => match x with | 196 => 36 | 259 => 46 | n => n, t := fun x => match x with | 9 => 9 | 4 => 4 | 3 => 3 | 5 => 5 | 12 => 12 | 119 => 76 | 0 => 0 | 46 => 80 | 139 => 79 | 138 => 78 | 53 => 86 | n => n, g := fun x => match x with | 3 => 0 | 4 => 1 | n => n }
theorem laysV : Lays.n196 Tryd.prog renV :=
  { mixed := by kernel_rfl, f196 := Eq.trans Tryd.func36 (congrArg some (by kernel_rfl)), f259 := Eq.trans Tryd.func46 (congrArg some (by kernel_rfl)),
    t0 := Tryd.underlying0, a0 := Tryd.isAgg0, z0 := Tryd.sizeOf0, v0 := Tryd.zeroValue0, t3 := Tryd.underlying3, a3 := Tryd.isAgg3, z3 := Tryd.sizeOf3, v3 := Tryd.zeroValue3,
    t4 := Tryd.underlying4, a4 := Tryd.isAgg4, z4 := Tryd.sizeOf4, v4 := Tryd.zeroValue4, t5 := Tryd.underlying5, a5 := Tryd.isAgg5, z5 := Tryd.sizeOf5, v5 := Tryd.zeroValue5,
    t9 := Tryd.underlying9, a9 := Tryd.isAgg9, z9 := Tryd.sizeOf9, v9 := Tryd.zeroValue9, t12 := Tryd.underlying12, a12 := Tryd.isAgg12, z12 := Tryd.sizeOf12, v12 := Tryd.zeroValue12,
    t46 := Tryd.underlying80, a46 := Tryd.isAgg80, z46 := Tryd.sizeOf80, v46 := Tryd.zeroValue80, t53 := Tryd.underlying86, a53 := Tryd.isAgg86, z53 := Tryd.sizeOf86, v53 := Tryd.zeroValue86,
    t119 := Tryd.underlying76, a119 := Tryd.isAgg76, z119 := Tryd.sizeOf76, t138 := Tryd.underlying78, a138 := Tryd.isAgg78, z138 := Tryd.sizeOf78, v138 := Tryd.zeroValue78,
    t139 := Tryd.underlying79, a139 := Tryd.isAgg79, z139 := Tryd.sizeOf79, v139 := Tryd.zeroValue79, g3 := by kernel_rfl, g4 := by kernel_rfl }

theorem valid_spec (s : ByteArray) (hs : s.size ≤ 1000000000) : Fun Tryd.prog 36 [.v (.string s)] (.v (.bool (okS s))) := by
  intro w F vs hl hr hh hF
  have hv : vs = [.string s] := by
    match vs, hl, hr with
    | [u], _, hr => rw [Rep.of_v (hr 0 _ u rfl rfl)]
  subst hv
  have ht := (hF.glob.tabs (renV.g 3) (renV.g 4) (by kernel_rfl) (by kernel_rfl)).1
  refine (Any.utf8_ValidString laysV s w (by omega) ht).mono ?_
  rintro e w' ⟨rfl, hb⟩
  refine ⟨_, _, [], rfl, ⟨rfl, rfl⟩, ?_, HeapOK.nil _ _, Kept.of_below _ hb, fun g hg => absurd hg (own_nil g)⟩
  rw [okS_valid]
  exact .v _
end Go.Ob
