/-
  No cell of these rows narrows 'for every input' (looked for: loops, veiled, ifaces, maps, wideKeys, modest, calm, conditions, laid).
  DERIVED. THE GIVEN ROWS OF THIS SEAT. 10 by the template 'for every input the law returns true; each argument reads behind the call as it read before'; 0 by the template 'total and deterministic' (their statements: YtajklmaaokgecaaTotals.lean).
  GIVEN WITH THE SEED: the statements are not yours to turn. If you find one false, say at which input.
  Laid BY PROGRAM, IN A SANDBOX (cutbox-rows.mjs): the forced cells as the released guide's own fill.sh prints them over the translation edad3a3c4cd3bb4d… (all of the seat's roots in one cut). By AI agents, Wed Nov 11 2026. No macro, syntax, notation, axiom, sorry.
-/
import Derived.Test.YtajklmaaokgecaaChecked
import GoSem.Claim
import GoSem.ClaimJoined
import GoSem.ClaimMapViews
import Derived.JoinedTies
import Derived.KernelRfl
namespace Go.Proofs.Ytajklmaaokgecaa
/- THE CELL 'sum', in the pinned program and in every row, IS THE sha256 OF THE DUMP (.gsa) THAT YtajklmaaokgecaaProg.lean LOADS. Nothing in Lean hashes anything: it is a label: what it is worth is what the hold of that sum in a sandbox is worth. -/
noncomputable def Try.pinned : Pinned := { name := "ytajklmaaokgecaa", sum := "edad3a3c4cd3bb4d7315c5f62ddde2d4aa8a865d5837bf48bd20b9ce403c7aa6", checked := Try.checked }
namespace Rows
def none {H : Type} : Left H := { results := [], args := [] }

/-- 'obeluslaw07.PropertyFits': WHATEVER THE INPUT: true; the input reads as it did. -/
def propertyFitsSpec : ChangeSpec := { name := "propertyFits", fn := fun _ => fun
  | [d1, d2, d3] => { results := [.lit (.bool true)], args := [d1, d2, d3] }
  | _ => none }
def propertyFitsRow : OpenClaim := { program := "ytajklmaaokgecaa", sum := "edad3a3c4cd3bb4d7315c5f62ddde2d4aa8a865d5837bf48bd20b9ce403c7aa6", func := "obelus/obeluslaw07.PropertyFits", spec := "propertyFits", unfollowed := true, recurses := true, apart := false }
def PropertyFitsSaid : Prop := propertyFitsRow.holds Try.pinned (OpenSpec.ofChange propertyFitsSpec)

/-- ITS FALSE NEIGHBOUR: 'it returns false'. Refute it at one input. -/
def propertyFitsWrong : ChangeSpec := { name := "propertyFits", fn := fun _ => fun
  | [d1, d2, d3] => { results := [.lit (.bool false)], args := [d1, d2, d3] }
  | _ => none }
def PropertyFitsWrongFalsely : Prop := propertyFitsRow.holds Try.pinned (OpenSpec.ofChange propertyFitsWrong)

/-- 'obeluslaw07.PropertyChecks': WHATEVER THE INPUT: true; the input reads as it did. -/
def propertyChecksSpec : ChangeSpec := { name := "propertyChecks", fn := fun _ => fun
  | [d1, d2] => { results := [.lit (.bool true)], args := [d1, d2] }
  | _ => none }
def propertyChecksRow : OpenClaim := { program := "ytajklmaaokgecaa", sum := "edad3a3c4cd3bb4d7315c5f62ddde2d4aa8a865d5837bf48bd20b9ce403c7aa6", func := "obelus/obeluslaw07.PropertyChecks", spec := "propertyChecks", unfollowed := true, recurses := true, apart := false }
def PropertyChecksSaid : Prop := propertyChecksRow.holds Try.pinned (OpenSpec.ofChange propertyChecksSpec)

/-- ITS FALSE NEIGHBOUR: 'it returns false'. Refute it at one input. -/
def propertyChecksWrong : ChangeSpec := { name := "propertyChecks", fn := fun _ => fun
  | [d1, d2] => { results := [.lit (.bool false)], args := [d1, d2] }
  | _ => none }
def PropertyChecksWrongFalsely : Prop := propertyChecksRow.holds Try.pinned (OpenSpec.ofChange propertyChecksWrong)

/-- 'obeluslaw07.PropertyMerges': WHATEVER THE INPUT: true; the input reads as it did. -/
def propertyMergesSpec : ChangeSpec := { name := "propertyMerges", fn := fun _ => fun
  | [d1, d2, d3] => { results := [.lit (.bool true)], args := [d1, d2, d3] }
  | _ => none }
def propertyMergesRow : OpenClaim := { program := "ytajklmaaokgecaa", sum := "edad3a3c4cd3bb4d7315c5f62ddde2d4aa8a865d5837bf48bd20b9ce403c7aa6", func := "obelus/obeluslaw07.PropertyMerges", spec := "propertyMerges", unfollowed := true, recurses := true, apart := false }
def PropertyMergesSaid : Prop := propertyMergesRow.holds Try.pinned (OpenSpec.ofChange propertyMergesSpec)

/-- ITS FALSE NEIGHBOUR: 'it returns false'. Refute it at one input. -/
def propertyMergesWrong : ChangeSpec := { name := "propertyMerges", fn := fun _ => fun
  | [d1, d2, d3] => { results := [.lit (.bool false)], args := [d1, d2, d3] }
  | _ => none }
def PropertyMergesWrongFalsely : Prop := propertyMergesRow.holds Try.pinned (OpenSpec.ofChange propertyMergesWrong)

/-- 'obeluslaw07.PropertyNames': WHATEVER THE INPUT: true; the input reads as it did. -/
def propertyNamesSpec : ChangeSpec := { name := "propertyNames", fn := fun _ => fun
  | [d1, d2] => { results := [.lit (.bool true)], args := [d1, d2] }
  | _ => none }
def propertyNamesRow : OpenClaim := { program := "ytajklmaaokgecaa", sum := "edad3a3c4cd3bb4d7315c5f62ddde2d4aa8a865d5837bf48bd20b9ce403c7aa6", func := "obelus/obeluslaw07.PropertyNames", spec := "propertyNames", unfollowed := true, recurses := true, apart := false }
def PropertyNamesSaid : Prop := propertyNamesRow.holds Try.pinned (OpenSpec.ofChange propertyNamesSpec)

/-- ITS FALSE NEIGHBOUR: 'it returns false'. Refute it at one input. -/
def propertyNamesWrong : ChangeSpec := { name := "propertyNames", fn := fun _ => fun
  | [d1, d2] => { results := [.lit (.bool false)], args := [d1, d2] }
  | _ => none }
def PropertyNamesWrongFalsely : Prop := propertyNamesRow.holds Try.pinned (OpenSpec.ofChange propertyNamesWrong)

/-- 'obeluslaw07.PropertyGets': WHATEVER THE INPUT: true; the input reads as it did. -/
def propertyGetsSpec : ChangeSpec := { name := "propertyGets", fn := fun _ => fun
  | [d1, d2] => { results := [.lit (.bool true)], args := [d1, d2] }
  | _ => none }
def propertyGetsRow : OpenClaim := { program := "ytajklmaaokgecaa", sum := "edad3a3c4cd3bb4d7315c5f62ddde2d4aa8a865d5837bf48bd20b9ce403c7aa6", func := "obelus/obeluslaw07.PropertyGets", spec := "propertyGets", unfollowed := true, recurses := true, apart := false }
def PropertyGetsSaid : Prop := propertyGetsRow.holds Try.pinned (OpenSpec.ofChange propertyGetsSpec)

/-- ITS FALSE NEIGHBOUR: 'it returns false'. Refute it at one input. -/
def propertyGetsWrong : ChangeSpec := { name := "propertyGets", fn := fun _ => fun
  | [d1, d2] => { results := [.lit (.bool false)], args := [d1, d2] }
  | _ => none }
def PropertyGetsWrongFalsely : Prop := propertyGetsRow.holds Try.pinned (OpenSpec.ofChange propertyGetsWrong)

/-- 'obeluslaw07.PropertyKeys': WHATEVER THE INPUT: true; the input reads as it did. -/
def propertyKeysSpec : ChangeSpec := { name := "propertyKeys", fn := fun _ => fun
  | [d] => { results := [.lit (.bool true)], args := [d] }
  | _ => none }
def propertyKeysRow : OpenClaim := { program := "ytajklmaaokgecaa", sum := "edad3a3c4cd3bb4d7315c5f62ddde2d4aa8a865d5837bf48bd20b9ce403c7aa6", func := "obelus/obeluslaw07.PropertyKeys", spec := "propertyKeys", unfollowed := true, recurses := true, apart := false }
def PropertyKeysSaid : Prop := propertyKeysRow.holds Try.pinned (OpenSpec.ofChange propertyKeysSpec)

/-- ITS FALSE NEIGHBOUR: 'it returns false'. Refute it at one input. -/
def propertyKeysWrong : ChangeSpec := { name := "propertyKeys", fn := fun _ => fun
  | [d] => { results := [.lit (.bool false)], args := [d] }
  | _ => none }
def PropertyKeysWrongFalsely : Prop := propertyKeysRow.holds Try.pinned (OpenSpec.ofChange propertyKeysWrong)

/-- 'obeluslaw07.PropertySets': WHATEVER THE INPUT: true; the input reads as it did. -/
def propertySetsSpec : ChangeSpec := { name := "propertySets", fn := fun _ => fun
  | [d1, d2, d3] => { results := [.lit (.bool true)], args := [d1, d2, d3] }
  | _ => none }
def propertySetsRow : OpenClaim := { program := "ytajklmaaokgecaa", sum := "edad3a3c4cd3bb4d7315c5f62ddde2d4aa8a865d5837bf48bd20b9ce403c7aa6", func := "obelus/obeluslaw07.PropertySets", spec := "propertySets", inPlace := ["slices.overlaps[obelus/api.Prop]"], unfollowed := true, recurses := true, apart := false }
def PropertySetsSaid : Prop := propertySetsRow.holds Try.pinned (OpenSpec.ofChange propertySetsSpec)

/-- ITS FALSE NEIGHBOUR: 'it returns false'. Refute it at one input. -/
def propertySetsWrong : ChangeSpec := { name := "propertySets", fn := fun _ => fun
  | [d1, d2, d3] => { results := [.lit (.bool false)], args := [d1, d2, d3] }
  | _ => none }
def PropertySetsWrongFalsely : Prop := propertySetsRow.holds Try.pinned (OpenSpec.ofChange propertySetsWrong)

/-- 'obeluslaw07.PropertyCommutes': WHATEVER THE INPUT: true; the input reads as it did. -/
def propertyCommutesSpec : ChangeSpec := { name := "propertyCommutes", fn := fun _ => fun
  | [d1, d2, d3] => { results := [.lit (.bool true)], args := [d1, d2, d3] }
  | _ => none }
def propertyCommutesRow : OpenClaim := { program := "ytajklmaaokgecaa", sum := "edad3a3c4cd3bb4d7315c5f62ddde2d4aa8a865d5837bf48bd20b9ce403c7aa6", func := "obelus/obeluslaw07.PropertyCommutes", spec := "propertyCommutes", inPlace := ["slices.overlaps[obelus/api.Prop]"], unfollowed := true, recurses := true, apart := false }
def PropertyCommutesSaid : Prop := propertyCommutesRow.holds Try.pinned (OpenSpec.ofChange propertyCommutesSpec)

/-- ITS FALSE NEIGHBOUR: 'it returns false'. Refute it at one input. -/
def propertyCommutesWrong : ChangeSpec := { name := "propertyCommutes", fn := fun _ => fun
  | [d1, d2, d3] => { results := [.lit (.bool false)], args := [d1, d2, d3] }
  | _ => none }
def PropertyCommutesWrongFalsely : Prop := propertyCommutesRow.holds Try.pinned (OpenSpec.ofChange propertyCommutesWrong)

/-- 'obeluslaw07.PropertyApplies': WHATEVER THE INPUT: true; the input reads as it did. -/
def propertyAppliesSpec : ChangeSpec := { name := "propertyApplies", fn := fun _ => fun
  | [d1, d2] => { results := [.lit (.bool true)], args := [d1, d2] }
  | _ => none }
def propertyAppliesRow : OpenClaim := { program := "ytajklmaaokgecaa", sum := "edad3a3c4cd3bb4d7315c5f62ddde2d4aa8a865d5837bf48bd20b9ce403c7aa6", func := "obelus/obeluslaw07.PropertyApplies", spec := "propertyApplies", inPlace := ["slices.overlaps[obelus/api.Prop]"], unfollowed := true, recurses := true, apart := false }
def PropertyAppliesSaid : Prop := propertyAppliesRow.holds Try.pinned (OpenSpec.ofChange propertyAppliesSpec)

/-- ITS FALSE NEIGHBOUR: 'it returns false'. Refute it at one input. -/
def propertyAppliesWrong : ChangeSpec := { name := "propertyApplies", fn := fun _ => fun
  | [d1, d2] => { results := [.lit (.bool false)], args := [d1, d2] }
  | _ => none }
def PropertyAppliesWrongFalsely : Prop := propertyAppliesRow.holds Try.pinned (OpenSpec.ofChange propertyAppliesWrong)

/-- 'obeluslaw07.PropertyDiffs': WHATEVER THE INPUT: true; the input reads as it did. -/
def propertyDiffsSpec : ChangeSpec := { name := "propertyDiffs", fn := fun _ => fun
  | [d1, d2] => { results := [.lit (.bool true)], args := [d1, d2] }
  | _ => none }
def propertyDiffsRow : OpenClaim := { program := "ytajklmaaokgecaa", sum := "edad3a3c4cd3bb4d7315c5f62ddde2d4aa8a865d5837bf48bd20b9ce403c7aa6", func := "obelus/obeluslaw07.PropertyDiffs", spec := "propertyDiffs", inPlace := ["slices.overlaps[obelus/api.Prop]"], unfollowed := true, recurses := true, apart := false }
def PropertyDiffsSaid : Prop := propertyDiffsRow.holds Try.pinned (OpenSpec.ofChange propertyDiffsSpec)

/-- ITS FALSE NEIGHBOUR: 'it returns false'. Refute it at one input. -/
def propertyDiffsWrong : ChangeSpec := { name := "propertyDiffs", fn := fun _ => fun
  | [d1, d2] => { results := [.lit (.bool false)], args := [d1, d2] }
  | _ => none }
def PropertyDiffsWrongFalsely : Prop := propertyDiffsRow.holds Try.pinned (OpenSpec.ofChange propertyDiffsWrong)

/- THE SECOND FORM. 'bulk': how many values and letters a reading holds, each counted each time it is reached (what is shared counts as often as it is met; a slice's spare places count too). A statement '..UptoSaid' is the law's where the arguments, and the package variables that the reading takes, are together of bulk at most 1048576: NARROWER than '..Said'. Prove '..Said' where nothing that the law and all that it calls make is longer than what came in: it says more and counts as full. Else prove '..UptoSaid'. A law counts once. -/
mutual
def uptoBulk {H : Type} : DataW H → Nat
  | .lit (.string bytes) => bytes.length + 1
  | .lit _ => 1
  | .nil => 1
  | .ptr d => uptoBulk d + 1
  | .slice elems spare => uptoBulkAll elems + uptoBulkAll spare + 1
  | .agg parts => uptoBulkAll parts + 1
  | .iface _ d => uptoBulk d + 1
  | .map entries => uptoBulkEntries entries + 1
  | .held _ => 1
def uptoBulkAll {H : Type} : List (DataW H) → Nat
  | [] => 0
  | d :: r => uptoBulk d + uptoBulkAll r
def uptoBulkEntries {H : Type} : List (Lit × DataW H) → Nat
  | [] => 0
  | x :: r => uptoBulkEntry x + uptoBulkEntries r
def uptoBulkEntry {H : Type} : Lit × DataW H → Nat
  | (.string bytes, d) => bytes.length + uptoBulk d + 1
  | (_, d) => uptoBulk d + 1
 end
def uptoSmall : (H : Type) → List (DataW H) → Bool := fun _ ds => decide (uptoBulkAll ds ≤ 1048576)
def OpenSpec.upto (s : _root_.Go.ChangeSpec) : _root_.Go.OpenSpec := { _root_.Go.OpenSpec.ofChange s with cond := some uptoSmall }

/-- 'obeluslaw07.PropertyFits', WHERE WHAT IT READS IS OF BULK AT MOST 1048576: true; the input reads as it did. -/
def propertyFitsUptoRow : OpenClaim := { program := "ytajklmaaokgecaa", sum := "edad3a3c4cd3bb4d7315c5f62ddde2d4aa8a865d5837bf48bd20b9ce403c7aa6", func := "obelus/obeluslaw07.PropertyFits", spec := "propertyFits", unfollowed := true, recurses := true, apart := false, narrowed := true }
def PropertyFitsUptoSaid : Prop := propertyFitsUptoRow.holds Try.pinned (OpenSpec.upto propertyFitsSpec)

/-- 'obeluslaw07.PropertyChecks', WHERE WHAT IT READS IS OF BULK AT MOST 1048576: true; the input reads as it did. -/
def propertyChecksUptoRow : OpenClaim := { program := "ytajklmaaokgecaa", sum := "edad3a3c4cd3bb4d7315c5f62ddde2d4aa8a865d5837bf48bd20b9ce403c7aa6", func := "obelus/obeluslaw07.PropertyChecks", spec := "propertyChecks", unfollowed := true, recurses := true, apart := false, narrowed := true }
def PropertyChecksUptoSaid : Prop := propertyChecksUptoRow.holds Try.pinned (OpenSpec.upto propertyChecksSpec)

/-- 'obeluslaw07.PropertyMerges', WHERE WHAT IT READS IS OF BULK AT MOST 1048576: true; the input reads as it did. -/
def propertyMergesUptoRow : OpenClaim := { program := "ytajklmaaokgecaa", sum := "edad3a3c4cd3bb4d7315c5f62ddde2d4aa8a865d5837bf48bd20b9ce403c7aa6", func := "obelus/obeluslaw07.PropertyMerges", spec := "propertyMerges", unfollowed := true, recurses := true, apart := false, narrowed := true }
def PropertyMergesUptoSaid : Prop := propertyMergesUptoRow.holds Try.pinned (OpenSpec.upto propertyMergesSpec)

/-- 'obeluslaw07.PropertyNames', WHERE WHAT IT READS IS OF BULK AT MOST 1048576: true; the input reads as it did. -/
def propertyNamesUptoRow : OpenClaim := { program := "ytajklmaaokgecaa", sum := "edad3a3c4cd3bb4d7315c5f62ddde2d4aa8a865d5837bf48bd20b9ce403c7aa6", func := "obelus/obeluslaw07.PropertyNames", spec := "propertyNames", unfollowed := true, recurses := true, apart := false, narrowed := true }
def PropertyNamesUptoSaid : Prop := propertyNamesUptoRow.holds Try.pinned (OpenSpec.upto propertyNamesSpec)

/-- 'obeluslaw07.PropertyGets', WHERE WHAT IT READS IS OF BULK AT MOST 1048576: true; the input reads as it did. -/
def propertyGetsUptoRow : OpenClaim := { program := "ytajklmaaokgecaa", sum := "edad3a3c4cd3bb4d7315c5f62ddde2d4aa8a865d5837bf48bd20b9ce403c7aa6", func := "obelus/obeluslaw07.PropertyGets", spec := "propertyGets", unfollowed := true, recurses := true, apart := false, narrowed := true }
def PropertyGetsUptoSaid : Prop := propertyGetsUptoRow.holds Try.pinned (OpenSpec.upto propertyGetsSpec)

/-- 'obeluslaw07.PropertyKeys', WHERE WHAT IT READS IS OF BULK AT MOST 1048576: true; the input reads as it did. -/
def propertyKeysUptoRow : OpenClaim := { program := "ytajklmaaokgecaa", sum := "edad3a3c4cd3bb4d7315c5f62ddde2d4aa8a865d5837bf48bd20b9ce403c7aa6", func := "obelus/obeluslaw07.PropertyKeys", spec := "propertyKeys", unfollowed := true, recurses := true, apart := false, narrowed := true }
def PropertyKeysUptoSaid : Prop := propertyKeysUptoRow.holds Try.pinned (OpenSpec.upto propertyKeysSpec)

/-- 'obeluslaw07.PropertySets', WHERE WHAT IT READS IS OF BULK AT MOST 1048576: true; the input reads as it did. -/
def propertySetsUptoRow : OpenClaim := { program := "ytajklmaaokgecaa", sum := "edad3a3c4cd3bb4d7315c5f62ddde2d4aa8a865d5837bf48bd20b9ce403c7aa6", func := "obelus/obeluslaw07.PropertySets", spec := "propertySets", inPlace := ["slices.overlaps[obelus/api.Prop]"], unfollowed := true, recurses := true, apart := false, narrowed := true }
def PropertySetsUptoSaid : Prop := propertySetsUptoRow.holds Try.pinned (OpenSpec.upto propertySetsSpec)

/-- 'obeluslaw07.PropertyCommutes', WHERE WHAT IT READS IS OF BULK AT MOST 1048576: true; the input reads as it did. -/
def propertyCommutesUptoRow : OpenClaim := { program := "ytajklmaaokgecaa", sum := "edad3a3c4cd3bb4d7315c5f62ddde2d4aa8a865d5837bf48bd20b9ce403c7aa6", func := "obelus/obeluslaw07.PropertyCommutes", spec := "propertyCommutes", inPlace := ["slices.overlaps[obelus/api.Prop]"], unfollowed := true, recurses := true, apart := false, narrowed := true }
def PropertyCommutesUptoSaid : Prop := propertyCommutesUptoRow.holds Try.pinned (OpenSpec.upto propertyCommutesSpec)

/-- 'obeluslaw07.PropertyApplies', WHERE WHAT IT READS IS OF BULK AT MOST 1048576: true; the input reads as it did. -/
def propertyAppliesUptoRow : OpenClaim := { program := "ytajklmaaokgecaa", sum := "edad3a3c4cd3bb4d7315c5f62ddde2d4aa8a865d5837bf48bd20b9ce403c7aa6", func := "obelus/obeluslaw07.PropertyApplies", spec := "propertyApplies", inPlace := ["slices.overlaps[obelus/api.Prop]"], unfollowed := true, recurses := true, apart := false, narrowed := true }
def PropertyAppliesUptoSaid : Prop := propertyAppliesUptoRow.holds Try.pinned (OpenSpec.upto propertyAppliesSpec)

/-- 'obeluslaw07.PropertyDiffs', WHERE WHAT IT READS IS OF BULK AT MOST 1048576: true; the input reads as it did. -/
def propertyDiffsUptoRow : OpenClaim := { program := "ytajklmaaokgecaa", sum := "edad3a3c4cd3bb4d7315c5f62ddde2d4aa8a865d5837bf48bd20b9ce403c7aa6", func := "obelus/obeluslaw07.PropertyDiffs", spec := "propertyDiffs", inPlace := ["slices.overlaps[obelus/api.Prop]"], unfollowed := true, recurses := true, apart := false, narrowed := true }
def PropertyDiffsUptoSaid : Prop := propertyDiffsUptoRow.holds Try.pinned (OpenSpec.upto propertyDiffsSpec)

end Rows
end Go.Proofs.Ytajklmaaokgecaa
