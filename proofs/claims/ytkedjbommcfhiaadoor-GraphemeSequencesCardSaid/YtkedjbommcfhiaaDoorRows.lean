/-
  NARROWER THAN 'FOR EVERY INPUT', by the rows' own cells (each row's printed sentence says how): GraphemeClasses: laid · GraphemeBoundaries: laid · GraphemeClusters: laid · GraphemeSuffixes: laid · GraphemeSequences: laid · GraphemeLines: laid · GraphemeTruncates: laid · GraphemeWalks: laid · GraphemeMoves: laid.
  DERIVED. THE GIVEN ROWS OF THIS SEAT. 9 by the template 'for every input the law returns true; each argument reads behind the call as it read before'; 0 by the template 'total and deterministic' (their statements: YtkedjbommcfhiaaDoorTotals.lean).
  GIVEN WITH THE SEED: the statements are not yours to turn. If you find one false, say at which input.
  Laid BY PROGRAM, IN A SANDBOX (cutbox-rows.mjs): the forced cells as the released guide's own fill.sh prints them over the translation 5db2018ad6dabedc… (all of the seat's roots in one cut). By AI agents, Wed Nov 11 2026. No macro, syntax, notation, axiom, sorry.
-/
import Derived.Test.YtkedjbommcfhiaaDoorChecked
import GoSem.PinnedTables
import GoSem.Claim
import GoSem.ClaimJoined
import GoSem.ClaimMapViews
import Derived.JoinedTies
import Derived.KernelRfl
namespace Go.Proofs.YtkedjbommcfhiaaDoor
/- THE CELL 'sum', in the pinned program and in every row, IS THE sha256 OF THE DUMP (.gsa) THAT YtkedjbommcfhiaaDoorProg.lean LOADS. Nothing in Lean hashes anything: it is a label: what it is worth is what the hold of that sum in a sandbox is worth. -/
noncomputable def Tryd.pinned : Pinned := { name := "ytkedjbommcfhiaadoor", sum := "5db2018ad6dabedc46655c72f623fc61fea690b04eebe901ceb313183cd4cc1c", checked := Tryd.checked }
namespace Rows
def none {H : Type} : Left H := { results := [], args := [] }

/- WHAT THE LISTED PACKAGE-LEVEL VARIABLES READ AS WHEN THE CALL BEGINS. Each datum BY PROGRAM (the guide's laid-datum.mjs) off the statement by which the dump's own 'gosem.cut.vars' lays the variable. In a bare row this is a premise. The card (YtkedjbommcfhiaaDoorCards.lean) ties it to the program's text. -/
def laid_unicode_utf8_acceptRanges {H : Type} : DataW H := .agg [.agg [.lit (.int .u8 128), .lit (.int .u8 191)], .agg [.lit (.int .u8 160), .lit (.int .u8 191)], .agg [.lit (.int .u8 128), .lit (.int .u8 159)], .agg [.lit (.int .u8 144), .lit (.int .u8 191)], .agg [.lit (.int .u8 128), .lit (.int .u8 143)], .agg [.lit (.int .u8 0), .lit (.int .u8 0)], .agg [.lit (.int .u8 0), .lit (.int .u8 0)], .agg [.lit (.int .u8 0), .lit (.int .u8 0)], .agg [.lit (.int .u8 0), .lit (.int .u8 0)], .agg [.lit (.int .u8 0), .lit (.int .u8 0)], .agg [.lit (.int .u8 0), .lit (.int .u8 0)], .agg [.lit (.int .u8 0), .lit (.int .u8 0)], .agg [.lit (.int .u8 0), .lit (.int .u8 0)], .agg [.lit (.int .u8 0), .lit (.int .u8 0)], .agg [.lit (.int .u8 0), .lit (.int .u8 0)], .agg [.lit (.int .u8 0), .lit (.int .u8 0)]]
/-- One of Go's own tables, pinned by name: the form's constant. -/
def laid_unicode_utf8_first : DataW Unit := Go.Pinned.utf8First

/-- 'obeluslaw02.GraphemeClasses': WHATEVER THE INPUT: true; the input reads as it did. -/
def graphemeClassesSpec : ChangeSpec := { name := "graphemeClasses", fn := fun _ => fun
  | [d] => { results := [.lit (.bool true)], args := [d] }
  | _ => none }
def graphemeClassesRow : OpenClaim := { program := "ytkedjbommcfhiaadoor", sum := "5db2018ad6dabedc46655c72f623fc61fea690b04eebe901ceb313183cd4cc1c", func := "obelus/obeluslaw02.GraphemeClasses", spec := "graphemeClasses", unfollowed := true, recurses := true, named := ["unicode/utf8.first", "unicode/utf8.acceptRanges"], apart := false, laid := [("unicode/utf8.acceptRanges", laid_unicode_utf8_acceptRanges), ("unicode/utf8.first", laid_unicode_utf8_first)] }
def GraphemeClassesSaid : Prop := graphemeClassesRow.holds Tryd.pinned (OpenSpec.ofChange graphemeClassesSpec)

/-- ITS FALSE NEIGHBOUR: 'it returns false'. Refute it at one input. -/
def graphemeClassesWrong : ChangeSpec := { name := "graphemeClasses", fn := fun _ => fun
  | [d] => { results := [.lit (.bool false)], args := [d] }
  | _ => none }
def GraphemeClassesWrongFalsely : Prop := graphemeClassesRow.holds Tryd.pinned (OpenSpec.ofChange graphemeClassesWrong)

/-- 'obeluslaw02.GraphemeBoundaries': WHATEVER THE INPUT: true; the input reads as it did. -/
def graphemeBoundariesSpec : ChangeSpec := { name := "graphemeBoundaries", fn := fun _ => fun
  | [d] => { results := [.lit (.bool true)], args := [d] }
  | _ => none }
def graphemeBoundariesRow : OpenClaim := { program := "ytkedjbommcfhiaadoor", sum := "5db2018ad6dabedc46655c72f623fc61fea690b04eebe901ceb313183cd4cc1c", func := "obelus/obeluslaw02.GraphemeBoundaries", spec := "graphemeBoundaries", unfollowed := true, recurses := true, named := ["unicode/utf8.first", "unicode/utf8.acceptRanges"], apart := false, laid := [("unicode/utf8.acceptRanges", laid_unicode_utf8_acceptRanges), ("unicode/utf8.first", laid_unicode_utf8_first)] }
def GraphemeBoundariesSaid : Prop := graphemeBoundariesRow.holds Tryd.pinned (OpenSpec.ofChange graphemeBoundariesSpec)

/-- ITS FALSE NEIGHBOUR: 'it returns false'. Refute it at one input. -/
def graphemeBoundariesWrong : ChangeSpec := { name := "graphemeBoundaries", fn := fun _ => fun
  | [d] => { results := [.lit (.bool false)], args := [d] }
  | _ => none }
def GraphemeBoundariesWrongFalsely : Prop := graphemeBoundariesRow.holds Tryd.pinned (OpenSpec.ofChange graphemeBoundariesWrong)

/-- 'obeluslaw02.GraphemeClusters': WHATEVER THE INPUT: true; the input reads as it did. -/
def graphemeClustersSpec : ChangeSpec := { name := "graphemeClusters", fn := fun _ => fun
  | [d] => { results := [.lit (.bool true)], args := [d] }
  | _ => none }
def graphemeClustersRow : OpenClaim := { program := "ytkedjbommcfhiaadoor", sum := "5db2018ad6dabedc46655c72f623fc61fea690b04eebe901ceb313183cd4cc1c", func := "obelus/obeluslaw02.GraphemeClusters", spec := "graphemeClusters", unfollowed := true, recurses := true, named := ["unicode/utf8.first", "unicode/utf8.acceptRanges"], apart := false, laid := [("unicode/utf8.acceptRanges", laid_unicode_utf8_acceptRanges), ("unicode/utf8.first", laid_unicode_utf8_first)] }
def GraphemeClustersSaid : Prop := graphemeClustersRow.holds Tryd.pinned (OpenSpec.ofChange graphemeClustersSpec)

/-- ITS FALSE NEIGHBOUR: 'it returns false'. Refute it at one input. -/
def graphemeClustersWrong : ChangeSpec := { name := "graphemeClusters", fn := fun _ => fun
  | [d] => { results := [.lit (.bool false)], args := [d] }
  | _ => none }
def GraphemeClustersWrongFalsely : Prop := graphemeClustersRow.holds Tryd.pinned (OpenSpec.ofChange graphemeClustersWrong)

/-- 'obeluslaw02.GraphemeSuffixes': WHATEVER THE INPUT: true; the input reads as it did. -/
def graphemeSuffixesSpec : ChangeSpec := { name := "graphemeSuffixes", fn := fun _ => fun
  | [d1, d2] => { results := [.lit (.bool true)], args := [d1, d2] }
  | _ => none }
def graphemeSuffixesRow : OpenClaim := { program := "ytkedjbommcfhiaadoor", sum := "5db2018ad6dabedc46655c72f623fc61fea690b04eebe901ceb313183cd4cc1c", func := "obelus/obeluslaw02.GraphemeSuffixes", spec := "graphemeSuffixes", unfollowed := true, recurses := true, named := ["unicode/utf8.first", "unicode/utf8.acceptRanges"], apart := false, laid := [("unicode/utf8.acceptRanges", laid_unicode_utf8_acceptRanges), ("unicode/utf8.first", laid_unicode_utf8_first)] }
def GraphemeSuffixesSaid : Prop := graphemeSuffixesRow.holds Tryd.pinned (OpenSpec.ofChange graphemeSuffixesSpec)

/-- ITS FALSE NEIGHBOUR: 'it returns false'. Refute it at one input. -/
def graphemeSuffixesWrong : ChangeSpec := { name := "graphemeSuffixes", fn := fun _ => fun
  | [d1, d2] => { results := [.lit (.bool false)], args := [d1, d2] }
  | _ => none }
def GraphemeSuffixesWrongFalsely : Prop := graphemeSuffixesRow.holds Tryd.pinned (OpenSpec.ofChange graphemeSuffixesWrong)

/-- 'obeluslaw02.GraphemeSequences': WHATEVER THE INPUT: true; the input reads as it did. -/
def graphemeSequencesSpec : ChangeSpec := { name := "graphemeSequences", fn := fun _ => fun
  | [d1, d2] => { results := [.lit (.bool true)], args := [d1, d2] }
  | _ => none }
def graphemeSequencesRow : OpenClaim := { program := "ytkedjbommcfhiaadoor", sum := "5db2018ad6dabedc46655c72f623fc61fea690b04eebe901ceb313183cd4cc1c", func := "obelus/obeluslaw02.GraphemeSequences", spec := "graphemeSequences", unfollowed := true, recurses := true, named := ["unicode/utf8.first", "unicode/utf8.acceptRanges"], apart := false, laid := [("unicode/utf8.acceptRanges", laid_unicode_utf8_acceptRanges), ("unicode/utf8.first", laid_unicode_utf8_first)] }
def GraphemeSequencesSaid : Prop := graphemeSequencesRow.holds Tryd.pinned (OpenSpec.ofChange graphemeSequencesSpec)

/-- ITS FALSE NEIGHBOUR: 'it returns false'. Refute it at one input. -/
def graphemeSequencesWrong : ChangeSpec := { name := "graphemeSequences", fn := fun _ => fun
  | [d1, d2] => { results := [.lit (.bool false)], args := [d1, d2] }
  | _ => none }
def GraphemeSequencesWrongFalsely : Prop := graphemeSequencesRow.holds Tryd.pinned (OpenSpec.ofChange graphemeSequencesWrong)

/-- 'obeluslaw02.GraphemeLines': WHATEVER THE INPUT: true; the input reads as it did. -/
def graphemeLinesSpec : ChangeSpec := { name := "graphemeLines", fn := fun _ => fun
  | [d] => { results := [.lit (.bool true)], args := [d] }
  | _ => none }
def graphemeLinesRow : OpenClaim := { program := "ytkedjbommcfhiaadoor", sum := "5db2018ad6dabedc46655c72f623fc61fea690b04eebe901ceb313183cd4cc1c", func := "obelus/obeluslaw02.GraphemeLines", spec := "graphemeLines", unfollowed := true, recurses := true, named := ["unicode/utf8.first", "unicode/utf8.acceptRanges"], apart := false, laid := [("unicode/utf8.acceptRanges", laid_unicode_utf8_acceptRanges), ("unicode/utf8.first", laid_unicode_utf8_first)] }
def GraphemeLinesSaid : Prop := graphemeLinesRow.holds Tryd.pinned (OpenSpec.ofChange graphemeLinesSpec)

/-- ITS FALSE NEIGHBOUR: 'it returns false'. Refute it at one input. -/
def graphemeLinesWrong : ChangeSpec := { name := "graphemeLines", fn := fun _ => fun
  | [d] => { results := [.lit (.bool false)], args := [d] }
  | _ => none }
def GraphemeLinesWrongFalsely : Prop := graphemeLinesRow.holds Tryd.pinned (OpenSpec.ofChange graphemeLinesWrong)

/-- 'obeluslaw02.GraphemeTruncates': WHATEVER THE INPUT: true; the input reads as it did. -/
def graphemeTruncatesSpec : ChangeSpec := { name := "graphemeTruncates", fn := fun _ => fun
  | [d1, d2] => { results := [.lit (.bool true)], args := [d1, d2] }
  | _ => none }
def graphemeTruncatesRow : OpenClaim := { program := "ytkedjbommcfhiaadoor", sum := "5db2018ad6dabedc46655c72f623fc61fea690b04eebe901ceb313183cd4cc1c", func := "obelus/obeluslaw02.GraphemeTruncates", spec := "graphemeTruncates", unfollowed := true, recurses := true, named := ["unicode/utf8.first", "unicode/utf8.acceptRanges"], apart := false, laid := [("unicode/utf8.acceptRanges", laid_unicode_utf8_acceptRanges), ("unicode/utf8.first", laid_unicode_utf8_first)] }
def GraphemeTruncatesSaid : Prop := graphemeTruncatesRow.holds Tryd.pinned (OpenSpec.ofChange graphemeTruncatesSpec)

/-- ITS FALSE NEIGHBOUR: 'it returns false'. Refute it at one input. -/
def graphemeTruncatesWrong : ChangeSpec := { name := "graphemeTruncates", fn := fun _ => fun
  | [d1, d2] => { results := [.lit (.bool false)], args := [d1, d2] }
  | _ => none }
def GraphemeTruncatesWrongFalsely : Prop := graphemeTruncatesRow.holds Tryd.pinned (OpenSpec.ofChange graphemeTruncatesWrong)

/-- 'obeluslaw02.GraphemeWalks': WHATEVER THE INPUT: true; the input reads as it did. -/
def graphemeWalksSpec : ChangeSpec := { name := "graphemeWalks", fn := fun _ => fun
  | [d] => { results := [.lit (.bool true)], args := [d] }
  | _ => none }
def graphemeWalksRow : OpenClaim := { program := "ytkedjbommcfhiaadoor", sum := "5db2018ad6dabedc46655c72f623fc61fea690b04eebe901ceb313183cd4cc1c", func := "obelus/obeluslaw02.GraphemeWalks", spec := "graphemeWalks", unfollowed := true, recurses := true, named := ["unicode/utf8.first", "unicode/utf8.acceptRanges"], apart := false, laid := [("unicode/utf8.acceptRanges", laid_unicode_utf8_acceptRanges), ("unicode/utf8.first", laid_unicode_utf8_first)] }
def GraphemeWalksSaid : Prop := graphemeWalksRow.holds Tryd.pinned (OpenSpec.ofChange graphemeWalksSpec)

/-- ITS FALSE NEIGHBOUR: 'it returns false'. Refute it at one input. -/
def graphemeWalksWrong : ChangeSpec := { name := "graphemeWalks", fn := fun _ => fun
  | [d] => { results := [.lit (.bool false)], args := [d] }
  | _ => none }
def GraphemeWalksWrongFalsely : Prop := graphemeWalksRow.holds Tryd.pinned (OpenSpec.ofChange graphemeWalksWrong)

/-- 'obeluslaw02.GraphemeMoves': WHATEVER THE INPUT: true; the input reads as it did. -/
def graphemeMovesSpec : ChangeSpec := { name := "graphemeMoves", fn := fun _ => fun
  | [d1, d2] => { results := [.lit (.bool true)], args := [d1, d2] }
  | _ => none }
def graphemeMovesRow : OpenClaim := { program := "ytkedjbommcfhiaadoor", sum := "5db2018ad6dabedc46655c72f623fc61fea690b04eebe901ceb313183cd4cc1c", func := "obelus/obeluslaw02.GraphemeMoves", spec := "graphemeMoves", unfollowed := true, recurses := true, named := ["unicode/utf8.first", "unicode/utf8.acceptRanges"], apart := false, laid := [("unicode/utf8.acceptRanges", laid_unicode_utf8_acceptRanges), ("unicode/utf8.first", laid_unicode_utf8_first)] }
def GraphemeMovesSaid : Prop := graphemeMovesRow.holds Tryd.pinned (OpenSpec.ofChange graphemeMovesSpec)

/-- ITS FALSE NEIGHBOUR: 'it returns false'. Refute it at one input. -/
def graphemeMovesWrong : ChangeSpec := { name := "graphemeMoves", fn := fun _ => fun
  | [d1, d2] => { results := [.lit (.bool false)], args := [d1, d2] }
  | _ => none }
def GraphemeMovesWrongFalsely : Prop := graphemeMovesRow.holds Tryd.pinned (OpenSpec.ofChange graphemeMovesWrong)

/- THE SECOND FORM. 'bulk': how many values and letters a reading holds, each counted each time it is reached (what is shared counts as often as it is met; a slice's spare places count too). A statement '..UptoSaid' is the law's where the arguments, and the package variables that the reading takes, are together of bulk at most 1048576: NARROWER than '..Said'. Prove '..Said' where nothing that the law and all that it calls make is longer than what came in: it says more and counts as full. Else prove '..UptoSaid'. A law counts once. -/
mutual
def uptoBulk {H : Type} : DataW H → Nat
  | .lit (.string bytes) => bytes.length + 1
  | .lit _ => 1
  | .nil => 1
  | .ptr d => uptoBulk d + 1
  | .slice elems spare => uptoBulkAll elems + uptoBulkAll spare + 1
  | .agg parts => uptoBulkAll parts + 1
  | .iface _ d => uptoBulk d + 1
  | .map entries => uptoBulkEntries entries + 1
  | .held _ => 1
def uptoBulkAll {H : Type} : List (DataW H) → Nat
  | [] => 0
  | d :: r => uptoBulk d + uptoBulkAll r
def uptoBulkEntries {H : Type} : List (Lit × DataW H) → Nat
  | [] => 0
  | x :: r => uptoBulkEntry x + uptoBulkEntries r
def uptoBulkEntry {H : Type} : Lit × DataW H → Nat
  | (.string bytes, d) => bytes.length + uptoBulk d + 1
  | (_, d) => uptoBulk d + 1
 end
def uptoSmall : (H : Type) → List (DataW H) → Bool := fun _ ds => decide (uptoBulkAll ds ≤ 1048576)
def OpenSpec.upto (s : _root_.Go.ChangeSpec) : _root_.Go.OpenSpec := { _root_.Go.OpenSpec.ofChange s with cond := some uptoSmall }

/-- 'obeluslaw02.GraphemeClasses', WHERE WHAT IT READS IS OF BULK AT MOST 1048576: true; the input reads as it did. -/
def graphemeClassesUptoRow : OpenClaim := { program := "ytkedjbommcfhiaadoor", sum := "5db2018ad6dabedc46655c72f623fc61fea690b04eebe901ceb313183cd4cc1c", func := "obelus/obeluslaw02.GraphemeClasses", spec := "graphemeClasses", unfollowed := true, recurses := true, named := ["unicode/utf8.first", "unicode/utf8.acceptRanges"], apart := false, laid := [("unicode/utf8.acceptRanges", laid_unicode_utf8_acceptRanges), ("unicode/utf8.first", laid_unicode_utf8_first)], narrowed := true }
def GraphemeClassesUptoSaid : Prop := graphemeClassesUptoRow.holds Tryd.pinned (OpenSpec.upto graphemeClassesSpec)

/-- 'obeluslaw02.GraphemeBoundaries', WHERE WHAT IT READS IS OF BULK AT MOST 1048576: true; the input reads as it did. -/
def graphemeBoundariesUptoRow : OpenClaim := { program := "ytkedjbommcfhiaadoor", sum := "5db2018ad6dabedc46655c72f623fc61fea690b04eebe901ceb313183cd4cc1c", func := "obelus/obeluslaw02.GraphemeBoundaries", spec := "graphemeBoundaries", unfollowed := true, recurses := true, named := ["unicode/utf8.first", "unicode/utf8.acceptRanges"], apart := false, laid := [("unicode/utf8.acceptRanges", laid_unicode_utf8_acceptRanges), ("unicode/utf8.first", laid_unicode_utf8_first)], narrowed := true }
def GraphemeBoundariesUptoSaid : Prop := graphemeBoundariesUptoRow.holds Tryd.pinned (OpenSpec.upto graphemeBoundariesSpec)

/-- 'obeluslaw02.GraphemeClusters', WHERE WHAT IT READS IS OF BULK AT MOST 1048576: true; the input reads as it did. -/
def graphemeClustersUptoRow : OpenClaim := { program := "ytkedjbommcfhiaadoor", sum := "5db2018ad6dabedc46655c72f623fc61fea690b04eebe901ceb313183cd4cc1c", func := "obelus/obeluslaw02.GraphemeClusters", spec := "graphemeClusters", unfollowed := true, recurses := true, named := ["unicode/utf8.first", "unicode/utf8.acceptRanges"], apart := false, laid := [("unicode/utf8.acceptRanges", laid_unicode_utf8_acceptRanges), ("unicode/utf8.first", laid_unicode_utf8_first)], narrowed := true }
def GraphemeClustersUptoSaid : Prop := graphemeClustersUptoRow.holds Tryd.pinned (OpenSpec.upto graphemeClustersSpec)

/-- 'obeluslaw02.GraphemeSuffixes', WHERE WHAT IT READS IS OF BULK AT MOST 1048576: true; the input reads as it did. -/
def graphemeSuffixesUptoRow : OpenClaim := { program := "ytkedjbommcfhiaadoor", sum := "5db2018ad6dabedc46655c72f623fc61fea690b04eebe901ceb313183cd4cc1c", func := "obelus/obeluslaw02.GraphemeSuffixes", spec := "graphemeSuffixes", unfollowed := true, recurses := true, named := ["unicode/utf8.first", "unicode/utf8.acceptRanges"], apart := false, laid := [("unicode/utf8.acceptRanges", laid_unicode_utf8_acceptRanges), ("unicode/utf8.first", laid_unicode_utf8_first)], narrowed := true }
def GraphemeSuffixesUptoSaid : Prop := graphemeSuffixesUptoRow.holds Tryd.pinned (OpenSpec.upto graphemeSuffixesSpec)

/-- 'obeluslaw02.GraphemeSequences', WHERE WHAT IT READS IS OF BULK AT MOST 1048576: true; the input reads as it did. -/
def graphemeSequencesUptoRow : OpenClaim := { program := "ytkedjbommcfhiaadoor", sum := "5db2018ad6dabedc46655c72f623fc61fea690b04eebe901ceb313183cd4cc1c", func := "obelus/obeluslaw02.GraphemeSequences", spec := "graphemeSequences", unfollowed := true, recurses := true, named := ["unicode/utf8.first", "unicode/utf8.acceptRanges"], apart := false, laid := [("unicode/utf8.acceptRanges", laid_unicode_utf8_acceptRanges), ("unicode/utf8.first", laid_unicode_utf8_first)], narrowed := true }
def GraphemeSequencesUptoSaid : Prop := graphemeSequencesUptoRow.holds Tryd.pinned (OpenSpec.upto graphemeSequencesSpec)

/-- 'obeluslaw02.GraphemeLines', WHERE WHAT IT READS IS OF BULK AT MOST 1048576: true; the input reads as it did. -/
def graphemeLinesUptoRow : OpenClaim := { program := "ytkedjbommcfhiaadoor", sum := "5db2018ad6dabedc46655c72f623fc61fea690b04eebe901ceb313183cd4cc1c", func := "obelus/obeluslaw02.GraphemeLines", spec := "graphemeLines", unfollowed := true, recurses := true, named := ["unicode/utf8.first", "unicode/utf8.acceptRanges"], apart := false, laid := [("unicode/utf8.acceptRanges", laid_unicode_utf8_acceptRanges), ("unicode/utf8.first", laid_unicode_utf8_first)], narrowed := true }
def GraphemeLinesUptoSaid : Prop := graphemeLinesUptoRow.holds Tryd.pinned (OpenSpec.upto graphemeLinesSpec)

/-- 'obeluslaw02.GraphemeTruncates', WHERE WHAT IT READS IS OF BULK AT MOST 1048576: true; the input reads as it did. -/
def graphemeTruncatesUptoRow : OpenClaim := { program := "ytkedjbommcfhiaadoor", sum := "5db2018ad6dabedc46655c72f623fc61fea690b04eebe901ceb313183cd4cc1c", func := "obelus/obeluslaw02.GraphemeTruncates", spec := "graphemeTruncates", unfollowed := true, recurses := true, named := ["unicode/utf8.first", "unicode/utf8.acceptRanges"], apart := false, laid := [("unicode/utf8.acceptRanges", laid_unicode_utf8_acceptRanges), ("unicode/utf8.first", laid_unicode_utf8_first)], narrowed := true }
def GraphemeTruncatesUptoSaid : Prop := graphemeTruncatesUptoRow.holds Tryd.pinned (OpenSpec.upto graphemeTruncatesSpec)

/-- 'obeluslaw02.GraphemeWalks', WHERE WHAT IT READS IS OF BULK AT MOST 1048576: true; the input reads as it did. -/
def graphemeWalksUptoRow : OpenClaim := { program := "ytkedjbommcfhiaadoor", sum := "5db2018ad6dabedc46655c72f623fc61fea690b04eebe901ceb313183cd4cc1c", func := "obelus/obeluslaw02.GraphemeWalks", spec := "graphemeWalks", unfollowed := true, recurses := true, named := ["unicode/utf8.first", "unicode/utf8.acceptRanges"], apart := false, laid := [("unicode/utf8.acceptRanges", laid_unicode_utf8_acceptRanges), ("unicode/utf8.first", laid_unicode_utf8_first)], narrowed := true }
def GraphemeWalksUptoSaid : Prop := graphemeWalksUptoRow.holds Tryd.pinned (OpenSpec.upto graphemeWalksSpec)

/-- 'obeluslaw02.GraphemeMoves', WHERE WHAT IT READS IS OF BULK AT MOST 1048576: true; the input reads as it did. -/
def graphemeMovesUptoRow : OpenClaim := { program := "ytkedjbommcfhiaadoor", sum := "5db2018ad6dabedc46655c72f623fc61fea690b04eebe901ceb313183cd4cc1c", func := "obelus/obeluslaw02.GraphemeMoves", spec := "graphemeMoves", unfollowed := true, recurses := true, named := ["unicode/utf8.first", "unicode/utf8.acceptRanges"], apart := false, laid := [("unicode/utf8.acceptRanges", laid_unicode_utf8_acceptRanges), ("unicode/utf8.first", laid_unicode_utf8_first)], narrowed := true }
def GraphemeMovesUptoSaid : Prop := graphemeMovesUptoRow.holds Tryd.pinned (OpenSpec.upto graphemeMovesSpec)

end Rows
end Go.Proofs.YtkedjbommcfhiaaDoor
