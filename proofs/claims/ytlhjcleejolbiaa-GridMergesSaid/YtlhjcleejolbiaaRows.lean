/-
  NARROWER THAN 'FOR EVERY INPUT', by the rows' own cells (each row's printed sentence says how): GridRects: loops · GridSpans: loops · GridCovers: loops · GridRegular: loops · GridRemoves: loops · GridDisjoint: loops · GridPlaces: loops · GridSplits: loops · GridMerges: loops.
  DERIVED. THE GIVEN ROWS OF THIS SEAT. 9 by the template 'for every input the law returns true; each argument reads behind the call as it read before'; 0 by the template 'total and deterministic' (their statements: YtlhjcleejolbiaaTotals.lean).
  GIVEN WITH THE SEED: the statements are not yours to turn. If you find one false, say at which input.
  Laid BY PROGRAM, IN A SANDBOX (cutbox-rows.mjs): the forced cells as the released guide's own fill.sh prints them over the translation 8b6f7421a5b5dfae… (all of the seat's roots in one cut). By AI agents, Wed Nov 11 2026. No macro, syntax, notation, axiom, sorry.
-/
import Derived.Test.YtlhjcleejolbiaaChecked
import GoSem.Claim
import GoSem.ClaimJoined
import GoSem.ClaimMapViews
import Derived.JoinedTies
import Derived.KernelRfl
namespace Go.Proofs.Ytlhjcleejolbiaa
/- THE CELL 'sum', in the pinned program and in every row, IS THE sha256 OF THE DUMP (.gsa) THAT YtlhjcleejolbiaaProg.lean LOADS. Nothing in Lean hashes anything: it is a label: what it is worth is what the hold of that sum in a sandbox is worth. -/
noncomputable def Try.pinned : Pinned := { name := "ytlhjcleejolbiaa", sum := "8b6f7421a5b5dfaea1fbb27161e465f19057a02dafa28dfd20fc9485ca7a5936", checked := Try.checked }
namespace Rows
def none {H : Type} : Left H := { results := [], args := [] }

/-- 'obeluslaw12.GridRects': WHATEVER THE INPUT: true; the input reads as it did. -/
def gridRectsSpec : ChangeSpec := { name := "gridRects", fn := fun _ => fun
  | [d] => { results := [.lit (.bool true)], args := [d] }
  | _ => none }
def gridRectsRow : OpenClaim := { program := "ytlhjcleejolbiaa", sum := "8b6f7421a5b5dfaea1fbb27161e465f19057a02dafa28dfd20fc9485ca7a5936", func := "obelus/obeluslaw12.GridRects", spec := "gridRects", unfollowed := true, recurses := true, loops := true, plainKeys := false, apart := false }
def GridRectsSaid : Prop := gridRectsRow.holds Try.pinned (OpenSpec.ofChange gridRectsSpec)

/-- ITS FALSE NEIGHBOUR: 'it returns false'. Refute it at one input. -/
def gridRectsWrong : ChangeSpec := { name := "gridRects", fn := fun _ => fun
  | [d] => { results := [.lit (.bool false)], args := [d] }
  | _ => none }
def GridRectsWrongFalsely : Prop := gridRectsRow.holds Try.pinned (OpenSpec.ofChange gridRectsWrong)

/-- 'obeluslaw12.GridSpans': WHATEVER THE INPUT: true; the input reads as it did. -/
def gridSpansSpec : ChangeSpec := { name := "gridSpans", fn := fun _ => fun
  | [d1, d2] => { results := [.lit (.bool true)], args := [d1, d2] }
  | _ => none }
def gridSpansRow : OpenClaim := { program := "ytlhjcleejolbiaa", sum := "8b6f7421a5b5dfaea1fbb27161e465f19057a02dafa28dfd20fc9485ca7a5936", func := "obelus/obeluslaw12.GridSpans", spec := "gridSpans", unfollowed := true, recurses := true, loops := true, plainKeys := false, apart := false }
def GridSpansSaid : Prop := gridSpansRow.holds Try.pinned (OpenSpec.ofChange gridSpansSpec)

/-- ITS FALSE NEIGHBOUR: 'it returns false'. Refute it at one input. -/
def gridSpansWrong : ChangeSpec := { name := "gridSpans", fn := fun _ => fun
  | [d1, d2] => { results := [.lit (.bool false)], args := [d1, d2] }
  | _ => none }
def GridSpansWrongFalsely : Prop := gridSpansRow.holds Try.pinned (OpenSpec.ofChange gridSpansWrong)

/-- 'obeluslaw12.GridCovers': WHATEVER THE INPUT: true; the input reads as it did. -/
def gridCoversSpec : ChangeSpec := { name := "gridCovers", fn := fun _ => fun
  | [d1, d2] => { results := [.lit (.bool true)], args := [d1, d2] }
  | _ => none }
def gridCoversRow : OpenClaim := { program := "ytlhjcleejolbiaa", sum := "8b6f7421a5b5dfaea1fbb27161e465f19057a02dafa28dfd20fc9485ca7a5936", func := "obelus/obeluslaw12.GridCovers", spec := "gridCovers", unfollowed := true, recurses := true, loops := true, plainKeys := false, apart := false }
def GridCoversSaid : Prop := gridCoversRow.holds Try.pinned (OpenSpec.ofChange gridCoversSpec)

/-- ITS FALSE NEIGHBOUR: 'it returns false'. Refute it at one input. -/
def gridCoversWrong : ChangeSpec := { name := "gridCovers", fn := fun _ => fun
  | [d1, d2] => { results := [.lit (.bool false)], args := [d1, d2] }
  | _ => none }
def GridCoversWrongFalsely : Prop := gridCoversRow.holds Try.pinned (OpenSpec.ofChange gridCoversWrong)

/-- 'obeluslaw12.GridRegular': WHATEVER THE INPUT: true; the input reads as it did. -/
def gridRegularSpec : ChangeSpec := { name := "gridRegular", fn := fun _ => fun
  | [d] => { results := [.lit (.bool true)], args := [d] }
  | _ => none }
def gridRegularRow : OpenClaim := { program := "ytlhjcleejolbiaa", sum := "8b6f7421a5b5dfaea1fbb27161e465f19057a02dafa28dfd20fc9485ca7a5936", func := "obelus/obeluslaw12.GridRegular", spec := "gridRegular", unfollowed := true, recurses := true, loops := true, plainKeys := false, apart := false }
def GridRegularSaid : Prop := gridRegularRow.holds Try.pinned (OpenSpec.ofChange gridRegularSpec)

/-- ITS FALSE NEIGHBOUR: 'it returns false'. Refute it at one input. -/
def gridRegularWrong : ChangeSpec := { name := "gridRegular", fn := fun _ => fun
  | [d] => { results := [.lit (.bool false)], args := [d] }
  | _ => none }
def GridRegularWrongFalsely : Prop := gridRegularRow.holds Try.pinned (OpenSpec.ofChange gridRegularWrong)

/-- 'obeluslaw12.GridRemoves': WHATEVER THE INPUT: true; the input reads as it did. -/
def gridRemovesSpec : ChangeSpec := { name := "gridRemoves", fn := fun _ => fun
  | [d1, d2, d3] => { results := [.lit (.bool true)], args := [d1, d2, d3] }
  | _ => none }
def gridRemovesRow : OpenClaim := { program := "ytlhjcleejolbiaa", sum := "8b6f7421a5b5dfaea1fbb27161e465f19057a02dafa28dfd20fc9485ca7a5936", func := "obelus/obeluslaw12.GridRemoves", spec := "gridRemoves", unfollowed := true, recurses := true, loops := true, plainKeys := false, apart := false }
def GridRemovesSaid : Prop := gridRemovesRow.holds Try.pinned (OpenSpec.ofChange gridRemovesSpec)

/-- ITS FALSE NEIGHBOUR: 'it returns false'. Refute it at one input. -/
def gridRemovesWrong : ChangeSpec := { name := "gridRemoves", fn := fun _ => fun
  | [d1, d2, d3] => { results := [.lit (.bool false)], args := [d1, d2, d3] }
  | _ => none }
def GridRemovesWrongFalsely : Prop := gridRemovesRow.holds Try.pinned (OpenSpec.ofChange gridRemovesWrong)

/-- 'obeluslaw12.GridDisjoint': WHATEVER THE INPUT: true; the input reads as it did. -/
def gridDisjointSpec : ChangeSpec := { name := "gridDisjoint", fn := fun _ => fun
  | [d] => { results := [.lit (.bool true)], args := [d] }
  | _ => none }
def gridDisjointRow : OpenClaim := { program := "ytlhjcleejolbiaa", sum := "8b6f7421a5b5dfaea1fbb27161e465f19057a02dafa28dfd20fc9485ca7a5936", func := "obelus/obeluslaw12.GridDisjoint", spec := "gridDisjoint", unfollowed := true, recurses := true, loops := true, plainKeys := false, apart := false }
def GridDisjointSaid : Prop := gridDisjointRow.holds Try.pinned (OpenSpec.ofChange gridDisjointSpec)

/-- ITS FALSE NEIGHBOUR: 'it returns false'. Refute it at one input. -/
def gridDisjointWrong : ChangeSpec := { name := "gridDisjoint", fn := fun _ => fun
  | [d] => { results := [.lit (.bool false)], args := [d] }
  | _ => none }
def GridDisjointWrongFalsely : Prop := gridDisjointRow.holds Try.pinned (OpenSpec.ofChange gridDisjointWrong)

/-- 'obeluslaw12.GridPlaces': WHATEVER THE INPUT: true; the input reads as it did. -/
def gridPlacesSpec : ChangeSpec := { name := "gridPlaces", fn := fun _ => fun
  | [d1, d2, d3] => { results := [.lit (.bool true)], args := [d1, d2, d3] }
  | _ => none }
def gridPlacesRow : OpenClaim := { program := "ytlhjcleejolbiaa", sum := "8b6f7421a5b5dfaea1fbb27161e465f19057a02dafa28dfd20fc9485ca7a5936", func := "obelus/obeluslaw12.GridPlaces", spec := "gridPlaces", unfollowed := true, recurses := true, loops := true, plainKeys := false, apart := false }
def GridPlacesSaid : Prop := gridPlacesRow.holds Try.pinned (OpenSpec.ofChange gridPlacesSpec)

/-- ITS FALSE NEIGHBOUR: 'it returns false'. Refute it at one input. -/
def gridPlacesWrong : ChangeSpec := { name := "gridPlaces", fn := fun _ => fun
  | [d1, d2, d3] => { results := [.lit (.bool false)], args := [d1, d2, d3] }
  | _ => none }
def GridPlacesWrongFalsely : Prop := gridPlacesRow.holds Try.pinned (OpenSpec.ofChange gridPlacesWrong)

/-- 'obeluslaw12.GridSplits': WHATEVER THE INPUT: true; the input reads as it did. -/
def gridSplitsSpec : ChangeSpec := { name := "gridSplits", fn := fun _ => fun
  | [d1, d2] => { results := [.lit (.bool true)], args := [d1, d2] }
  | _ => none }
def gridSplitsRow : OpenClaim := { program := "ytlhjcleejolbiaa", sum := "8b6f7421a5b5dfaea1fbb27161e465f19057a02dafa28dfd20fc9485ca7a5936", func := "obelus/obeluslaw12.GridSplits", spec := "gridSplits", inPlace := ["slices.overlaps[obelus/api.Prop]", "slices.overlaps[obelus/api.Cell]"], unfollowed := true, recurses := true, loops := true, plainKeys := false, apart := false }
def GridSplitsSaid : Prop := gridSplitsRow.holds Try.pinned (OpenSpec.ofChange gridSplitsSpec)

/-- ITS FALSE NEIGHBOUR: 'it returns false'. Refute it at one input. -/
def gridSplitsWrong : ChangeSpec := { name := "gridSplits", fn := fun _ => fun
  | [d1, d2] => { results := [.lit (.bool false)], args := [d1, d2] }
  | _ => none }
def GridSplitsWrongFalsely : Prop := gridSplitsRow.holds Try.pinned (OpenSpec.ofChange gridSplitsWrong)

/-- 'obeluslaw12.GridMerges': WHATEVER THE INPUT: true; the input reads as it did. -/
def gridMergesSpec : ChangeSpec := { name := "gridMerges", fn := fun _ => fun
  | [d1, d2] => { results := [.lit (.bool true)], args := [d1, d2] }
  | _ => none }
def gridMergesRow : OpenClaim := { program := "ytlhjcleejolbiaa", sum := "8b6f7421a5b5dfaea1fbb27161e465f19057a02dafa28dfd20fc9485ca7a5936", func := "obelus/obeluslaw12.GridMerges", spec := "gridMerges", inPlace := ["slices.overlaps[obelus/api.Prop]"], unfollowed := true, recurses := true, loops := true, plainKeys := false, apart := false }
def GridMergesSaid : Prop := gridMergesRow.holds Try.pinned (OpenSpec.ofChange gridMergesSpec)

/-- ITS FALSE NEIGHBOUR: 'it returns false'. Refute it at one input. -/
def gridMergesWrong : ChangeSpec := { name := "gridMerges", fn := fun _ => fun
  | [d1, d2] => { results := [.lit (.bool false)], args := [d1, d2] }
  | _ => none }
def GridMergesWrongFalsely : Prop := gridMergesRow.holds Try.pinned (OpenSpec.ofChange gridMergesWrong)

/- THE SECOND FORM. 'bulk': how many values and letters a reading holds, each counted each time it is reached (what is shared counts as often as it is met; a slice's spare places count too). A statement '..UptoSaid' is the law's where the arguments, and the package variables that the reading takes, are together of bulk at most 1048576: NARROWER than '..Said'. Prove '..Said' where nothing that the law and all that it calls make is longer than what came in: it says more and counts as full. Else prove '..UptoSaid'. A law counts once. -/
mutual
def uptoBulk {H : Type} : DataW H → Nat
  | .lit (.string bytes) => bytes.length + 1
  | .lit _ => 1
  | .nil => 1
  | .ptr d => uptoBulk d + 1
  | .slice elems spare => uptoBulkAll elems + uptoBulkAll spare + 1
  | .agg parts => uptoBulkAll parts + 1
  | .iface _ d => uptoBulk d + 1
  | .map entries => uptoBulkEntries entries + 1
  | .held _ => 1
def uptoBulkAll {H : Type} : List (DataW H) → Nat
  | [] => 0
  | d :: r => uptoBulk d + uptoBulkAll r
def uptoBulkEntries {H : Type} : List (Lit × DataW H) → Nat
  | [] => 0
  | x :: r => uptoBulkEntry x + uptoBulkEntries r
def uptoBulkEntry {H : Type} : Lit × DataW H → Nat
  | (.string bytes, d) => bytes.length + uptoBulk d + 1
  | (_, d) => uptoBulk d + 1
 end
def uptoSmall : (H : Type) → List (DataW H) → Bool := fun _ ds => decide (uptoBulkAll ds ≤ 1048576)
def OpenSpec.upto (s : _root_.Go.ChangeSpec) : _root_.Go.OpenSpec := { _root_.Go.OpenSpec.ofChange s with cond := some uptoSmall }

/-- 'obeluslaw12.GridRects', WHERE WHAT IT READS IS OF BULK AT MOST 1048576: true; the input reads as it did. -/
def gridRectsUptoRow : OpenClaim := { program := "ytlhjcleejolbiaa", sum := "8b6f7421a5b5dfaea1fbb27161e465f19057a02dafa28dfd20fc9485ca7a5936", func := "obelus/obeluslaw12.GridRects", spec := "gridRects", unfollowed := true, recurses := true, loops := true, plainKeys := false, apart := false, narrowed := true }
def GridRectsUptoSaid : Prop := gridRectsUptoRow.holds Try.pinned (OpenSpec.upto gridRectsSpec)

/-- 'obeluslaw12.GridSpans', WHERE WHAT IT READS IS OF BULK AT MOST 1048576: true; the input reads as it did. -/
def gridSpansUptoRow : OpenClaim := { program := "ytlhjcleejolbiaa", sum := "8b6f7421a5b5dfaea1fbb27161e465f19057a02dafa28dfd20fc9485ca7a5936", func := "obelus/obeluslaw12.GridSpans", spec := "gridSpans", unfollowed := true, recurses := true, loops := true, plainKeys := false, apart := false, narrowed := true }
def GridSpansUptoSaid : Prop := gridSpansUptoRow.holds Try.pinned (OpenSpec.upto gridSpansSpec)

/-- 'obeluslaw12.GridCovers', WHERE WHAT IT READS IS OF BULK AT MOST 1048576: true; the input reads as it did. -/
def gridCoversUptoRow : OpenClaim := { program := "ytlhjcleejolbiaa", sum := "8b6f7421a5b5dfaea1fbb27161e465f19057a02dafa28dfd20fc9485ca7a5936", func := "obelus/obeluslaw12.GridCovers", spec := "gridCovers", unfollowed := true, recurses := true, loops := true, plainKeys := false, apart := false, narrowed := true }
def GridCoversUptoSaid : Prop := gridCoversUptoRow.holds Try.pinned (OpenSpec.upto gridCoversSpec)

/-- 'obeluslaw12.GridRegular', WHERE WHAT IT READS IS OF BULK AT MOST 1048576: true; the input reads as it did. -/
def gridRegularUptoRow : OpenClaim := { program := "ytlhjcleejolbiaa", sum := "8b6f7421a5b5dfaea1fbb27161e465f19057a02dafa28dfd20fc9485ca7a5936", func := "obelus/obeluslaw12.GridRegular", spec := "gridRegular", unfollowed := true, recurses := true, loops := true, plainKeys := false, apart := false, narrowed := true }
def GridRegularUptoSaid : Prop := gridRegularUptoRow.holds Try.pinned (OpenSpec.upto gridRegularSpec)

/-- 'obeluslaw12.GridRemoves', WHERE WHAT IT READS IS OF BULK AT MOST 1048576: true; the input reads as it did. -/
def gridRemovesUptoRow : OpenClaim := { program := "ytlhjcleejolbiaa", sum := "8b6f7421a5b5dfaea1fbb27161e465f19057a02dafa28dfd20fc9485ca7a5936", func := "obelus/obeluslaw12.GridRemoves", spec := "gridRemoves", unfollowed := true, recurses := true, loops := true, plainKeys := false, apart := false, narrowed := true }
def GridRemovesUptoSaid : Prop := gridRemovesUptoRow.holds Try.pinned (OpenSpec.upto gridRemovesSpec)

/-- 'obeluslaw12.GridDisjoint', WHERE WHAT IT READS IS OF BULK AT MOST 1048576: true; the input reads as it did. -/
def gridDisjointUptoRow : OpenClaim := { program := "ytlhjcleejolbiaa", sum := "8b6f7421a5b5dfaea1fbb27161e465f19057a02dafa28dfd20fc9485ca7a5936", func := "obelus/obeluslaw12.GridDisjoint", spec := "gridDisjoint", unfollowed := true, recurses := true, loops := true, plainKeys := false, apart := false, narrowed := true }
def GridDisjointUptoSaid : Prop := gridDisjointUptoRow.holds Try.pinned (OpenSpec.upto gridDisjointSpec)

/-- 'obeluslaw12.GridPlaces', WHERE WHAT IT READS IS OF BULK AT MOST 1048576: true; the input reads as it did. -/
def gridPlacesUptoRow : OpenClaim := { program := "ytlhjcleejolbiaa", sum := "8b6f7421a5b5dfaea1fbb27161e465f19057a02dafa28dfd20fc9485ca7a5936", func := "obelus/obeluslaw12.GridPlaces", spec := "gridPlaces", unfollowed := true, recurses := true, loops := true, plainKeys := false, apart := false, narrowed := true }
def GridPlacesUptoSaid : Prop := gridPlacesUptoRow.holds Try.pinned (OpenSpec.upto gridPlacesSpec)

/-- 'obeluslaw12.GridSplits', WHERE WHAT IT READS IS OF BULK AT MOST 1048576: true; the input reads as it did. -/
def gridSplitsUptoRow : OpenClaim := { program := "ytlhjcleejolbiaa", sum := "8b6f7421a5b5dfaea1fbb27161e465f19057a02dafa28dfd20fc9485ca7a5936", func := "obelus/obeluslaw12.GridSplits", spec := "gridSplits", inPlace := ["slices.overlaps[obelus/api.Prop]", "slices.overlaps[obelus/api.Cell]"], unfollowed := true, recurses := true, loops := true, plainKeys := false, apart := false, narrowed := true }
def GridSplitsUptoSaid : Prop := gridSplitsUptoRow.holds Try.pinned (OpenSpec.upto gridSplitsSpec)

/-- 'obeluslaw12.GridMerges', WHERE WHAT IT READS IS OF BULK AT MOST 1048576: true; the input reads as it did. -/
def gridMergesUptoRow : OpenClaim := { program := "ytlhjcleejolbiaa", sum := "8b6f7421a5b5dfaea1fbb27161e465f19057a02dafa28dfd20fc9485ca7a5936", func := "obelus/obeluslaw12.GridMerges", spec := "gridMerges", inPlace := ["slices.overlaps[obelus/api.Prop]"], unfollowed := true, recurses := true, loops := true, plainKeys := false, apart := false, narrowed := true }
def GridMergesUptoSaid : Prop := gridMergesUptoRow.holds Try.pinned (OpenSpec.upto gridMergesSpec)

end Rows
end Go.Proofs.Ytlhjcleejolbiaa
