import Derived.Test.YtkmgogabbefonaaDoorM
import Derived.Test.YtkmgogabbefonaaDoorProg
import Derived.Shelf.Unicode.ValidAny
set_option linter.unusedVariables false
set_option linter.unusedSimpArgs false
namespace Go.Ob
open Go.Proofs Go.Shelf
def renV : Ren := { f := fun x => match x with | 196 => 35 | 259 => 50 | n => n, t := fun x => match x with | 9 => 9 | 4 => 4 | 3 => 3 | 5 => 5 | 12 => 12 | 119 => 83 | 0 => 0 | 46 => 87 | 139 => 86 | 138 => 85 | 53 => 106 | n => n, g := fun x => match x with | 3 => 0 | 4 => 1 | n => n }
theorem laysV : Lays.n196 Tryd.prog renV :=
  { mixed := by kernel_rfl, f196 := Eq.trans Tryd.func35 (congrArg some (by kernel_rfl)), f259 := Eq.trans Tryd.func50 (congrArg some (by kernel_rfl)),
    t0 := Tryd.underlying0, a0 := Tryd.isAgg0, z0 := Tryd.sizeOf0, v0 := Tryd.zeroValue0,
    t3 := Tryd.underlying3, a3 := Tryd.isAgg3, z3 := Tryd.sizeOf3, v3 := Tryd.zeroValue3,
    t4 := Tryd.underlying4, a4 := Tryd.isAgg4, z4 := Tryd.sizeOf4, v4 := Tryd.zeroValue4,
    t5 := Tryd.underlying5, a5 := Tryd.isAgg5, z5 := Tryd.sizeOf5, v5 := Tryd.zeroValue5,
    t9 := Tryd.underlying9, a9 := Tryd.isAgg9, z9 := Tryd.sizeOf9, v9 := Tryd.zeroValue9,
    t12 := Tryd.underlying12, a12 := Tryd.isAgg12, z12 := Tryd.sizeOf12, v12 := Tryd.zeroValue12,
    t46 := Tryd.underlying87, a46 := Tryd.isAgg87, z46 := Tryd.sizeOf87, v46 := Tryd.zeroValue87,
    t53 := Tryd.underlying106, a53 := Tryd.isAgg106, z53 := Tryd.sizeOf106, v53 := Tryd.zeroValue106,
    t119 := Tryd.underlying83, a119 := Tryd.isAgg83, z119 := Tryd.sizeOf83, 
    t138 := Tryd.underlying85, a138 := Tryd.isAgg85, z138 := Tryd.sizeOf85, v138 := Tryd.zeroValue85,
    t139 := Tryd.underlying86, a139 := Tryd.isAgg86, z139 := Tryd.sizeOf86, v139 := Tryd.zeroValue86,
    g3 := by kernel_rfl, g4 := by kernel_rfl }

theorem valid_spec (s : ByteArray) (hs : s.size ≤ 1000000000) : Fun Tryd.prog 35 [.v (.string s)] (.v (.bool (okS s))) := by
  intro w F vs hl hr hh hF
  have hv : vs = [.string s] := by
    match vs, hl, hr with
    | [u], _, hr => rw [Rep.of_v (hr 0 _ u rfl rfl)]
  subst hv
  have ht := (hF.glob.tabs (renV.g 3) (renV.g 4) (by kernel_rfl) (by kernel_rfl)).1
  refine (Any.utf8_ValidString laysV s w (by omega) ht).mono ?_
  rintro e w' ⟨rfl, hb⟩
  refine ⟨_, _, [], rfl, ⟨rfl, rfl⟩, ?_, HeapOK.nil _ _, Kept.of_below _ hb, fun g hg => absurd hg (own_nil g)⟩
  rw [okS_valid]
  exact .v _
end Go.Ob
