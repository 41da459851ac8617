/-
  No cell of these rows narrows 'for every input' (looked for: loops, veiled, ifaces, maps, wideKeys, modest, calm, conditions, laid).
  DERIVED. THE GIVEN ROWS OF THIS SEAT. 10 by the template 'for every input the law returns true; each argument reads behind the call as it read before'; 0 by the template 'total and deterministic' (their statements: YtcmkgijekibdaaaTotals.lean).
  GIVEN WITH THE SEED: the statements are not yours to turn. If you find one false, say at which input.
  Laid BY PROGRAM, IN A SANDBOX (cutbox-rows.mjs): the forced cells as the released guide's own fill.sh prints them over the translation 527d623c11800651… (all of the seat's roots in one cut). By AI agents, Wed Nov 11 2026. No macro, syntax, notation, axiom, sorry.
-/
import Derived.Test.YtcmkgijekibdaaaChecked
import GoSem.Claim
import GoSem.ClaimJoined
import GoSem.ClaimMapViews
import Derived.JoinedTies
import Derived.KernelRfl
namespace Go.Proofs.Ytcmkgijekibdaaa
/- THE CELL 'sum', in the pinned program and in every row, IS THE sha256 OF THE DUMP (.gsa) THAT YtcmkgijekibdaaaProg.lean LOADS. Nothing in Lean hashes anything: it is a label: what it is worth is what the hold of that sum in a sandbox is worth. -/
noncomputable def Try.pinned : Pinned := { name := "ytcmkgijekibdaaa", sum := "527d623c118006510e5ddfd34e2eef97c7361a5d7ea00b23da0202403ee17140", checked := Try.checked }
namespace Rows
def none {H : Type} : Left H := { results := [], args := [] }

/-- 'obeluslaw08.StylesheetChecks': WHATEVER THE INPUT: true; the input reads as it did. -/
def stylesheetChecksSpec : ChangeSpec := { name := "stylesheetChecks", fn := fun _ => fun
  | [d1, d2] => { results := [.lit (.bool true)], args := [d1, d2] }
  | _ => none }
def stylesheetChecksRow : OpenClaim := { program := "ytcmkgijekibdaaa", sum := "527d623c118006510e5ddfd34e2eef97c7361a5d7ea00b23da0202403ee17140", func := "obelus/obeluslaw08.StylesheetChecks", spec := "stylesheetChecks", unfollowed := true, recurses := true, apart := false }
def StylesheetChecksSaid : Prop := stylesheetChecksRow.holds Try.pinned (OpenSpec.ofChange stylesheetChecksSpec)

/-- ITS FALSE NEIGHBOUR: 'it returns false'. Refute it at one input. -/
def stylesheetChecksWrong : ChangeSpec := { name := "stylesheetChecks", fn := fun _ => fun
  | [d1, d2] => { results := [.lit (.bool false)], args := [d1, d2] }
  | _ => none }
def StylesheetChecksWrongFalsely : Prop := stylesheetChecksRow.holds Try.pinned (OpenSpec.ofChange stylesheetChecksWrong)

/-- 'obeluslaw08.StylesheetNames': WHATEVER THE INPUT: true; the input reads as it did. -/
def stylesheetNamesSpec : ChangeSpec := { name := "stylesheetNames", fn := fun _ => fun
  | [d] => { results := [.lit (.bool true)], args := [d] }
  | _ => none }
def stylesheetNamesRow : OpenClaim := { program := "ytcmkgijekibdaaa", sum := "527d623c118006510e5ddfd34e2eef97c7361a5d7ea00b23da0202403ee17140", func := "obelus/obeluslaw08.StylesheetNames", spec := "stylesheetNames", unfollowed := true, recurses := true, apart := false }
def StylesheetNamesSaid : Prop := stylesheetNamesRow.holds Try.pinned (OpenSpec.ofChange stylesheetNamesSpec)

/-- ITS FALSE NEIGHBOUR: 'it returns false'. Refute it at one input. -/
def stylesheetNamesWrong : ChangeSpec := { name := "stylesheetNames", fn := fun _ => fun
  | [d] => { results := [.lit (.bool false)], args := [d] }
  | _ => none }
def StylesheetNamesWrongFalsely : Prop := stylesheetNamesRow.holds Try.pinned (OpenSpec.ofChange stylesheetNamesWrong)

/-- 'obeluslaw08.StylesheetOverrides': WHATEVER THE INPUT: true; the input reads as it did. -/
def stylesheetOverridesSpec : ChangeSpec := { name := "stylesheetOverrides", fn := fun _ => fun
  | [d1, d2, d3] => { results := [.lit (.bool true)], args := [d1, d2, d3] }
  | _ => none }
def stylesheetOverridesRow : OpenClaim := { program := "ytcmkgijekibdaaa", sum := "527d623c118006510e5ddfd34e2eef97c7361a5d7ea00b23da0202403ee17140", func := "obelus/obeluslaw08.StylesheetOverrides", spec := "stylesheetOverrides", unfollowed := true, recurses := true, apart := false }
def StylesheetOverridesSaid : Prop := stylesheetOverridesRow.holds Try.pinned (OpenSpec.ofChange stylesheetOverridesSpec)

/-- ITS FALSE NEIGHBOUR: 'it returns false'. Refute it at one input. -/
def stylesheetOverridesWrong : ChangeSpec := { name := "stylesheetOverrides", fn := fun _ => fun
  | [d1, d2, d3] => { results := [.lit (.bool false)], args := [d1, d2, d3] }
  | _ => none }
def StylesheetOverridesWrongFalsely : Prop := stylesheetOverridesRow.holds Try.pinned (OpenSpec.ofChange stylesheetOverridesWrong)

/-- 'obeluslaw08.StylesheetFinds': WHATEVER THE INPUT: true; the input reads as it did. -/
def stylesheetFindsSpec : ChangeSpec := { name := "stylesheetFinds", fn := fun _ => fun
  | [d1, d2, d3] => { results := [.lit (.bool true)], args := [d1, d2, d3] }
  | _ => none }
def stylesheetFindsRow : OpenClaim := { program := "ytcmkgijekibdaaa", sum := "527d623c118006510e5ddfd34e2eef97c7361a5d7ea00b23da0202403ee17140", func := "obelus/obeluslaw08.StylesheetFinds", spec := "stylesheetFinds", unfollowed := true, recurses := true, apart := false }
def StylesheetFindsSaid : Prop := stylesheetFindsRow.holds Try.pinned (OpenSpec.ofChange stylesheetFindsSpec)

/-- ITS FALSE NEIGHBOUR: 'it returns false'. Refute it at one input. -/
def stylesheetFindsWrong : ChangeSpec := { name := "stylesheetFinds", fn := fun _ => fun
  | [d1, d2, d3] => { results := [.lit (.bool false)], args := [d1, d2, d3] }
  | _ => none }
def StylesheetFindsWrongFalsely : Prop := stylesheetFindsRow.holds Try.pinned (OpenSpec.ofChange stylesheetFindsWrong)

/-- 'obeluslaw08.StylesheetResolves': WHATEVER THE INPUT: true; the input reads as it did. -/
def stylesheetResolvesSpec : ChangeSpec := { name := "stylesheetResolves", fn := fun _ => fun
  | [d1, d2, d3] => { results := [.lit (.bool true)], args := [d1, d2, d3] }
  | _ => none }
def stylesheetResolvesRow : OpenClaim := { program := "ytcmkgijekibdaaa", sum := "527d623c118006510e5ddfd34e2eef97c7361a5d7ea00b23da0202403ee17140", func := "obelus/obeluslaw08.StylesheetResolves", spec := "stylesheetResolves", unfollowed := true, recurses := true, apart := false }
def StylesheetResolvesSaid : Prop := stylesheetResolvesRow.holds Try.pinned (OpenSpec.ofChange stylesheetResolvesSpec)

/-- ITS FALSE NEIGHBOUR: 'it returns false'. Refute it at one input. -/
def stylesheetResolvesWrong : ChangeSpec := { name := "stylesheetResolves", fn := fun _ => fun
  | [d1, d2, d3] => { results := [.lit (.bool false)], args := [d1, d2, d3] }
  | _ => none }
def StylesheetResolvesWrongFalsely : Prop := stylesheetResolvesRow.holds Try.pinned (OpenSpec.ofChange stylesheetResolvesWrong)

/-- 'obeluslaw08.StylesheetEffective': WHATEVER THE INPUT: true; the input reads as it did. -/
def stylesheetEffectiveSpec : ChangeSpec := { name := "stylesheetEffective", fn := fun _ => fun
  | [d1, d2] => { results := [.lit (.bool true)], args := [d1, d2] }
  | _ => none }
def stylesheetEffectiveRow : OpenClaim := { program := "ytcmkgijekibdaaa", sum := "527d623c118006510e5ddfd34e2eef97c7361a5d7ea00b23da0202403ee17140", func := "obelus/obeluslaw08.StylesheetEffective", spec := "stylesheetEffective", unfollowed := true, recurses := true, apart := false }
def StylesheetEffectiveSaid : Prop := stylesheetEffectiveRow.holds Try.pinned (OpenSpec.ofChange stylesheetEffectiveSpec)

/-- ITS FALSE NEIGHBOUR: 'it returns false'. Refute it at one input. -/
def stylesheetEffectiveWrong : ChangeSpec := { name := "stylesheetEffective", fn := fun _ => fun
  | [d1, d2] => { results := [.lit (.bool false)], args := [d1, d2] }
  | _ => none }
def StylesheetEffectiveWrongFalsely : Prop := stylesheetEffectiveRow.holds Try.pinned (OpenSpec.ofChange stylesheetEffectiveWrong)

/-- 'obeluslaw08.StylesheetEquals': WHATEVER THE INPUT: true; the input reads as it did. -/
def stylesheetEqualsSpec : ChangeSpec := { name := "stylesheetEquals", fn := fun _ => fun
  | [d1, d2] => { results := [.lit (.bool true)], args := [d1, d2] }
  | _ => none }
def stylesheetEqualsRow : OpenClaim := { program := "ytcmkgijekibdaaa", sum := "527d623c118006510e5ddfd34e2eef97c7361a5d7ea00b23da0202403ee17140", func := "obelus/obeluslaw08.StylesheetEquals", spec := "stylesheetEquals", unfollowed := true, recurses := true, apart := false }
def StylesheetEqualsSaid : Prop := stylesheetEqualsRow.holds Try.pinned (OpenSpec.ofChange stylesheetEqualsSpec)

/-- ITS FALSE NEIGHBOUR: 'it returns false'. Refute it at one input. -/
def stylesheetEqualsWrong : ChangeSpec := { name := "stylesheetEquals", fn := fun _ => fun
  | [d1, d2] => { results := [.lit (.bool false)], args := [d1, d2] }
  | _ => none }
def StylesheetEqualsWrongFalsely : Prop := stylesheetEqualsRow.holds Try.pinned (OpenSpec.ofChange stylesheetEqualsWrong)

/-- 'obeluslaw08.StylesheetChains': WHATEVER THE INPUT: true; the input reads as it did. -/
def stylesheetChainsSpec : ChangeSpec := { name := "stylesheetChains", fn := fun _ => fun
  | [d1, d2] => { results := [.lit (.bool true)], args := [d1, d2] }
  | _ => none }
def stylesheetChainsRow : OpenClaim := { program := "ytcmkgijekibdaaa", sum := "527d623c118006510e5ddfd34e2eef97c7361a5d7ea00b23da0202403ee17140", func := "obelus/obeluslaw08.StylesheetChains", spec := "stylesheetChains", unfollowed := true, recurses := true, apart := false }
def StylesheetChainsSaid : Prop := stylesheetChainsRow.holds Try.pinned (OpenSpec.ofChange stylesheetChainsSpec)

/-- ITS FALSE NEIGHBOUR: 'it returns false'. Refute it at one input. -/
def stylesheetChainsWrong : ChangeSpec := { name := "stylesheetChains", fn := fun _ => fun
  | [d1, d2] => { results := [.lit (.bool false)], args := [d1, d2] }
  | _ => none }
def StylesheetChainsWrongFalsely : Prop := stylesheetChainsRow.holds Try.pinned (OpenSpec.ofChange stylesheetChainsWrong)

/-- 'obeluslaw08.StylesheetRemoves': WHATEVER THE INPUT: true; the input reads as it did. -/
def stylesheetRemovesSpec : ChangeSpec := { name := "stylesheetRemoves", fn := fun _ => fun
  | [d1, d2] => { results := [.lit (.bool true)], args := [d1, d2] }
  | _ => none }
def stylesheetRemovesRow : OpenClaim := { program := "ytcmkgijekibdaaa", sum := "527d623c118006510e5ddfd34e2eef97c7361a5d7ea00b23da0202403ee17140", func := "obelus/obeluslaw08.StylesheetRemoves", spec := "stylesheetRemoves", unfollowed := true, recurses := true, apart := false }
def StylesheetRemovesSaid : Prop := stylesheetRemovesRow.holds Try.pinned (OpenSpec.ofChange stylesheetRemovesSpec)

/-- ITS FALSE NEIGHBOUR: 'it returns false'. Refute it at one input. -/
def stylesheetRemovesWrong : ChangeSpec := { name := "stylesheetRemoves", fn := fun _ => fun
  | [d1, d2] => { results := [.lit (.bool false)], args := [d1, d2] }
  | _ => none }
def StylesheetRemovesWrongFalsely : Prop := stylesheetRemovesRow.holds Try.pinned (OpenSpec.ofChange stylesheetRemovesWrong)

/-- 'obeluslaw08.StylesheetRebases': WHATEVER THE INPUT: true; the input reads as it did. -/
def stylesheetRebasesSpec : ChangeSpec := { name := "stylesheetRebases", fn := fun _ => fun
  | [d1, d2] => { results := [.lit (.bool true)], args := [d1, d2] }
  | _ => none }
def stylesheetRebasesRow : OpenClaim := { program := "ytcmkgijekibdaaa", sum := "527d623c118006510e5ddfd34e2eef97c7361a5d7ea00b23da0202403ee17140", func := "obelus/obeluslaw08.StylesheetRebases", spec := "stylesheetRebases", inPlace := ["slices.overlaps[obelus/api.Prop]"], unfollowed := true, recurses := true, apart := false }
def StylesheetRebasesSaid : Prop := stylesheetRebasesRow.holds Try.pinned (OpenSpec.ofChange stylesheetRebasesSpec)

/-- ITS FALSE NEIGHBOUR: 'it returns false'. Refute it at one input. -/
def stylesheetRebasesWrong : ChangeSpec := { name := "stylesheetRebases", fn := fun _ => fun
  | [d1, d2] => { results := [.lit (.bool false)], args := [d1, d2] }
  | _ => none }
def StylesheetRebasesWrongFalsely : Prop := stylesheetRebasesRow.holds Try.pinned (OpenSpec.ofChange stylesheetRebasesWrong)

/- THE SECOND FORM. 'bulk': how many values and letters a reading holds, each counted each time it is reached (what is shared counts as often as it is met; a slice's spare places count too). A statement '..UptoSaid' is the law's where the arguments, and the package variables that the reading takes, are together of bulk at most 1048576: NARROWER than '..Said'. Prove '..Said' where nothing that the law and all that it calls make is longer than what came in: it says more and counts as full. Else prove '..UptoSaid'. A law counts once. -/
mutual
def uptoBulk {H : Type} : DataW H → Nat
  | .lit (.string bytes) => bytes.length + 1
  | .lit _ => 1
  | .nil => 1
  | .ptr d => uptoBulk d + 1
  | .slice elems spare => uptoBulkAll elems + uptoBulkAll spare + 1
  | .agg parts => uptoBulkAll parts + 1
  | .iface _ d => uptoBulk d + 1
  | .map entries => uptoBulkEntries entries + 1
  | .held _ => 1
def uptoBulkAll {H : Type} : List (DataW H) → Nat
  | [] => 0
  | d :: r => uptoBulk d + uptoBulkAll r
def uptoBulkEntries {H : Type} : List (Lit × DataW H) → Nat
  | [] => 0
  | x :: r => uptoBulkEntry x + uptoBulkEntries r
def uptoBulkEntry {H : Type} : Lit × DataW H → Nat
  | (.string bytes, d) => bytes.length + uptoBulk d + 1
  | (_, d) => uptoBulk d + 1
 end
def uptoSmall : (H : Type) → List (DataW H) → Bool := fun _ ds => decide (uptoBulkAll ds ≤ 1048576)
def OpenSpec.upto (s : _root_.Go.ChangeSpec) : _root_.Go.OpenSpec := { _root_.Go.OpenSpec.ofChange s with cond := some uptoSmall }

/-- 'obeluslaw08.StylesheetChecks', WHERE WHAT IT READS IS OF BULK AT MOST 1048576: true; the input reads as it did. -/
def stylesheetChecksUptoRow : OpenClaim := { program := "ytcmkgijekibdaaa", sum := "527d623c118006510e5ddfd34e2eef97c7361a5d7ea00b23da0202403ee17140", func := "obelus/obeluslaw08.StylesheetChecks", spec := "stylesheetChecks", unfollowed := true, recurses := true, apart := false, narrowed := true }
def StylesheetChecksUptoSaid : Prop := stylesheetChecksUptoRow.holds Try.pinned (OpenSpec.upto stylesheetChecksSpec)

/-- 'obeluslaw08.StylesheetNames', WHERE WHAT IT READS IS OF BULK AT MOST 1048576: true; the input reads as it did. -/
def stylesheetNamesUptoRow : OpenClaim := { program := "ytcmkgijekibdaaa", sum := "527d623c118006510e5ddfd34e2eef97c7361a5d7ea00b23da0202403ee17140", func := "obelus/obeluslaw08.StylesheetNames", spec := "stylesheetNames", unfollowed := true, recurses := true, apart := false, narrowed := true }
def StylesheetNamesUptoSaid : Prop := stylesheetNamesUptoRow.holds Try.pinned (OpenSpec.upto stylesheetNamesSpec)

/-- 'obeluslaw08.StylesheetOverrides', WHERE WHAT IT READS IS OF BULK AT MOST 1048576: true; the input reads as it did. -/
def stylesheetOverridesUptoRow : OpenClaim := { program := "ytcmkgijekibdaaa", sum := "527d623c118006510e5ddfd34e2eef97c7361a5d7ea00b23da0202403ee17140", func := "obelus/obeluslaw08.StylesheetOverrides", spec := "stylesheetOverrides", unfollowed := true, recurses := true, apart := false, narrowed := true }
def StylesheetOverridesUptoSaid : Prop := stylesheetOverridesUptoRow.holds Try.pinned (OpenSpec.upto stylesheetOverridesSpec)

/-- 'obeluslaw08.StylesheetFinds', WHERE WHAT IT READS IS OF BULK AT MOST 1048576: true; the input reads as it did. -/
def stylesheetFindsUptoRow : OpenClaim := { program := "ytcmkgijekibdaaa", sum := "527d623c118006510e5ddfd34e2eef97c7361a5d7ea00b23da0202403ee17140", func := "obelus/obeluslaw08.StylesheetFinds", spec := "stylesheetFinds", unfollowed := true, recurses := true, apart := false, narrowed := true }
def StylesheetFindsUptoSaid : Prop := stylesheetFindsUptoRow.holds Try.pinned (OpenSpec.upto stylesheetFindsSpec)

/-- 'obeluslaw08.StylesheetResolves', WHERE WHAT IT READS IS OF BULK AT MOST 1048576: true; the input reads as it did. -/
def stylesheetResolvesUptoRow : OpenClaim := { program := "ytcmkgijekibdaaa", sum := "527d623c118006510e5ddfd34e2eef97c7361a5d7ea00b23da0202403ee17140", func := "obelus/obeluslaw08.StylesheetResolves", spec := "stylesheetResolves", unfollowed := true, recurses := true, apart := false, narrowed := true }
def StylesheetResolvesUptoSaid : Prop := stylesheetResolvesUptoRow.holds Try.pinned (OpenSpec.upto stylesheetResolvesSpec)

/-- 'obeluslaw08.StylesheetEffective', WHERE WHAT IT READS IS OF BULK AT MOST 1048576: true; the input reads as it did. -/
def stylesheetEffectiveUptoRow : OpenClaim := { program := "ytcmkgijekibdaaa", sum := "527d623c118006510e5ddfd34e2eef97c7361a5d7ea00b23da0202403ee17140", func := "obelus/obeluslaw08.StylesheetEffective", spec := "stylesheetEffective", unfollowed := true, recurses := true, apart := false, narrowed := true }
def StylesheetEffectiveUptoSaid : Prop := stylesheetEffectiveUptoRow.holds Try.pinned (OpenSpec.upto stylesheetEffectiveSpec)

/-- 'obeluslaw08.StylesheetEquals', WHERE WHAT IT READS IS OF BULK AT MOST 1048576: true; the input reads as it did. -/
def stylesheetEqualsUptoRow : OpenClaim := { program := "ytcmkgijekibdaaa", sum := "527d623c118006510e5ddfd34e2eef97c7361a5d7ea00b23da0202403ee17140", func := "obelus/obeluslaw08.StylesheetEquals", spec := "stylesheetEquals", unfollowed := true, recurses := true, apart := false, narrowed := true }
def StylesheetEqualsUptoSaid : Prop := stylesheetEqualsUptoRow.holds Try.pinned (OpenSpec.upto stylesheetEqualsSpec)

/-- 'obeluslaw08.StylesheetChains', WHERE WHAT IT READS IS OF BULK AT MOST 1048576: true; the input reads as it did. -/
def stylesheetChainsUptoRow : OpenClaim := { program := "ytcmkgijekibdaaa", sum := "527d623c118006510e5ddfd34e2eef97c7361a5d7ea00b23da0202403ee17140", func := "obelus/obeluslaw08.StylesheetChains", spec := "stylesheetChains", unfollowed := true, recurses := true, apart := false, narrowed := true }
def StylesheetChainsUptoSaid : Prop := stylesheetChainsUptoRow.holds Try.pinned (OpenSpec.upto stylesheetChainsSpec)

/-- 'obeluslaw08.StylesheetRemoves', WHERE WHAT IT READS IS OF BULK AT MOST 1048576: true; the input reads as it did. -/
def stylesheetRemovesUptoRow : OpenClaim := { program := "ytcmkgijekibdaaa", sum := "527d623c118006510e5ddfd34e2eef97c7361a5d7ea00b23da0202403ee17140", func := "obelus/obeluslaw08.StylesheetRemoves", spec := "stylesheetRemoves", unfollowed := true, recurses := true, apart := false, narrowed := true }
def StylesheetRemovesUptoSaid : Prop := stylesheetRemovesUptoRow.holds Try.pinned (OpenSpec.upto stylesheetRemovesSpec)

/-- 'obeluslaw08.StylesheetRebases', WHERE WHAT IT READS IS OF BULK AT MOST 1048576: true; the input reads as it did. -/
def stylesheetRebasesUptoRow : OpenClaim := { program := "ytcmkgijekibdaaa", sum := "527d623c118006510e5ddfd34e2eef97c7361a5d7ea00b23da0202403ee17140", func := "obelus/obeluslaw08.StylesheetRebases", spec := "stylesheetRebases", inPlace := ["slices.overlaps[obelus/api.Prop]"], unfollowed := true, recurses := true, apart := false, narrowed := true }
def StylesheetRebasesUptoSaid : Prop := stylesheetRebasesUptoRow.holds Try.pinned (OpenSpec.upto stylesheetRebasesSpec)

end Rows
end Go.Proofs.Ytcmkgijekibdaaa
