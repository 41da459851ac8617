/-
  DERIVED. GIVEN WITH THE SEED: THE CARDS: each row of YtkedjbommcfhiaaDoorRows.lean that lists a variable, with what it lists TIED to the program's text (the seventh form; the later family's looks); each row that meets fmt, with fmt's text TOLD by the authors' own Lean function (tested against real Go, not proved from fmt's source: count such statements apart). THE CARD IS WHAT COUNTS. Prove the row's statement (the work); the ties are given (YtkedjbommcfhiaaDoorTie.lean); close each card by the builder's one call (the guide's Derived/Test/ToyasCard.lean, 'card_holds'). Laid BY PROGRAM, IN A SANDBOX (cutbox-door.mjs). By AI agents, Wed Nov 11 2026. No macro, syntax, notation, axiom, sorry.
-/
import Derived.Test.YtkedjbommcfhiaaDoorRows
import GoSem.ClaimSeven
namespace Go.Proofs.YtkedjbommcfhiaaDoor
namespace Rows

/-- THE TIED CARD OF 'obeluslaw02.GraphemeClasses'. -/
def graphemeClassesCard : Claim7 := { stood := { row := graphemeClassesRow, standIns := [], harness := (true, "35da5da69dc09bf603562e7c66ba057cd155d118a7e228d9ac4a4d234eced76a"), looks := false }, kinds := [], alts := [], laidByText := true, laidKinds := [.data, .pinned], laidTests := true, laidLooks := .later }
def GraphemeClassesCardSaid : Prop := Claim7.holds Tryd.pinned (.plain (OpenSpec.ofChange graphemeClassesSpec)) graphemeClassesCard

/-- THE TIED CARD OF 'obeluslaw02.GraphemeBoundaries'. -/
def graphemeBoundariesCard : Claim7 := { stood := { row := graphemeBoundariesRow, standIns := [], harness := (true, "35da5da69dc09bf603562e7c66ba057cd155d118a7e228d9ac4a4d234eced76a"), looks := false }, kinds := [], alts := [], laidByText := true, laidKinds := [.data, .pinned], laidTests := true, laidLooks := .later }
def GraphemeBoundariesCardSaid : Prop := Claim7.holds Tryd.pinned (.plain (OpenSpec.ofChange graphemeBoundariesSpec)) graphemeBoundariesCard

/-- THE TIED CARD OF 'obeluslaw02.GraphemeClusters'. -/
def graphemeClustersCard : Claim7 := { stood := { row := graphemeClustersRow, standIns := [], harness := (true, "35da5da69dc09bf603562e7c66ba057cd155d118a7e228d9ac4a4d234eced76a"), looks := false }, kinds := [], alts := [], laidByText := true, laidKinds := [.data, .pinned], laidTests := true, laidLooks := .later }
def GraphemeClustersCardSaid : Prop := Claim7.holds Tryd.pinned (.plain (OpenSpec.ofChange graphemeClustersSpec)) graphemeClustersCard

/-- THE TIED CARD OF 'obeluslaw02.GraphemeSuffixes'. -/
def graphemeSuffixesCard : Claim7 := { stood := { row := graphemeSuffixesRow, standIns := [], harness := (true, "35da5da69dc09bf603562e7c66ba057cd155d118a7e228d9ac4a4d234eced76a"), looks := false }, kinds := [], alts := [], laidByText := true, laidKinds := [.data, .pinned], laidTests := true, laidLooks := .later }
def GraphemeSuffixesCardSaid : Prop := Claim7.holds Tryd.pinned (.plain (OpenSpec.ofChange graphemeSuffixesSpec)) graphemeSuffixesCard

/-- THE TIED CARD OF 'obeluslaw02.GraphemeSequences'. -/
def graphemeSequencesCard : Claim7 := { stood := { row := graphemeSequencesRow, standIns := [], harness := (true, "35da5da69dc09bf603562e7c66ba057cd155d118a7e228d9ac4a4d234eced76a"), looks := false }, kinds := [], alts := [], laidByText := true, laidKinds := [.data, .pinned], laidTests := true, laidLooks := .later }
def GraphemeSequencesCardSaid : Prop := Claim7.holds Tryd.pinned (.plain (OpenSpec.ofChange graphemeSequencesSpec)) graphemeSequencesCard

/-- THE TIED CARD OF 'obeluslaw02.GraphemeLines'. -/
def graphemeLinesCard : Claim7 := { stood := { row := graphemeLinesRow, standIns := [], harness := (true, "35da5da69dc09bf603562e7c66ba057cd155d118a7e228d9ac4a4d234eced76a"), looks := false }, kinds := [], alts := [], laidByText := true, laidKinds := [.data, .pinned], laidTests := true, laidLooks := .later }
def GraphemeLinesCardSaid : Prop := Claim7.holds Tryd.pinned (.plain (OpenSpec.ofChange graphemeLinesSpec)) graphemeLinesCard

/-- THE TIED CARD OF 'obeluslaw02.GraphemeTruncates'. -/
def graphemeTruncatesCard : Claim7 := { stood := { row := graphemeTruncatesRow, standIns := [], harness := (true, "35da5da69dc09bf603562e7c66ba057cd155d118a7e228d9ac4a4d234eced76a"), looks := false }, kinds := [], alts := [], laidByText := true, laidKinds := [.data, .pinned], laidTests := true, laidLooks := .later }
def GraphemeTruncatesCardSaid : Prop := Claim7.holds Tryd.pinned (.plain (OpenSpec.ofChange graphemeTruncatesSpec)) graphemeTruncatesCard

/-- THE TIED CARD OF 'obeluslaw02.GraphemeWalks'. -/
def graphemeWalksCard : Claim7 := { stood := { row := graphemeWalksRow, standIns := [], harness := (true, "35da5da69dc09bf603562e7c66ba057cd155d118a7e228d9ac4a4d234eced76a"), looks := false }, kinds := [], alts := [], laidByText := true, laidKinds := [.data, .pinned], laidTests := true, laidLooks := .later }
def GraphemeWalksCardSaid : Prop := Claim7.holds Tryd.pinned (.plain (OpenSpec.ofChange graphemeWalksSpec)) graphemeWalksCard

/-- THE TIED CARD OF 'obeluslaw02.GraphemeMoves'. -/
def graphemeMovesCard : Claim7 := { stood := { row := graphemeMovesRow, standIns := [], harness := (true, "35da5da69dc09bf603562e7c66ba057cd155d118a7e228d9ac4a4d234eced76a"), looks := false }, kinds := [], alts := [], laidByText := true, laidKinds := [.data, .pinned], laidTests := true, laidLooks := .later }
def GraphemeMovesCardSaid : Prop := Claim7.holds Tryd.pinned (.plain (OpenSpec.ofChange graphemeMovesSpec)) graphemeMovesCard

/-- THE SECOND FORM's CARD OF 'obeluslaw02.GraphemeClasses'. -/
def graphemeClassesUptoCard : Claim7 := { stood := { row := graphemeClassesUptoRow, standIns := [], harness := (true, "35da5da69dc09bf603562e7c66ba057cd155d118a7e228d9ac4a4d234eced76a"), looks := false }, kinds := [], alts := [], laidByText := true, laidKinds := [.data, .pinned], laidTests := true, laidLooks := .later }
def GraphemeClassesUptoCardSaid : Prop := Claim7.holds Tryd.pinned (.plain (OpenSpec.upto graphemeClassesSpec)) graphemeClassesUptoCard

/-- THE SECOND FORM's CARD OF 'obeluslaw02.GraphemeBoundaries'. -/
def graphemeBoundariesUptoCard : Claim7 := { stood := { row := graphemeBoundariesUptoRow, standIns := [], harness := (true, "35da5da69dc09bf603562e7c66ba057cd155d118a7e228d9ac4a4d234eced76a"), looks := false }, kinds := [], alts := [], laidByText := true, laidKinds := [.data, .pinned], laidTests := true, laidLooks := .later }
def GraphemeBoundariesUptoCardSaid : Prop := Claim7.holds Tryd.pinned (.plain (OpenSpec.upto graphemeBoundariesSpec)) graphemeBoundariesUptoCard

/-- THE SECOND FORM's CARD OF 'obeluslaw02.GraphemeClusters'. -/
def graphemeClustersUptoCard : Claim7 := { stood := { row := graphemeClustersUptoRow, standIns := [], harness := (true, "35da5da69dc09bf603562e7c66ba057cd155d118a7e228d9ac4a4d234eced76a"), looks := false }, kinds := [], alts := [], laidByText := true, laidKinds := [.data, .pinned], laidTests := true, laidLooks := .later }
def GraphemeClustersUptoCardSaid : Prop := Claim7.holds Tryd.pinned (.plain (OpenSpec.upto graphemeClustersSpec)) graphemeClustersUptoCard

/-- THE SECOND FORM's CARD OF 'obeluslaw02.GraphemeSuffixes'. -/
def graphemeSuffixesUptoCard : Claim7 := { stood := { row := graphemeSuffixesUptoRow, standIns := [], harness := (true, "35da5da69dc09bf603562e7c66ba057cd155d118a7e228d9ac4a4d234eced76a"), looks := false }, kinds := [], alts := [], laidByText := true, laidKinds := [.data, .pinned], laidTests := true, laidLooks := .later }
def GraphemeSuffixesUptoCardSaid : Prop := Claim7.holds Tryd.pinned (.plain (OpenSpec.upto graphemeSuffixesSpec)) graphemeSuffixesUptoCard

/-- THE SECOND FORM's CARD OF 'obeluslaw02.GraphemeSequences'. -/
def graphemeSequencesUptoCard : Claim7 := { stood := { row := graphemeSequencesUptoRow, standIns := [], harness := (true, "35da5da69dc09bf603562e7c66ba057cd155d118a7e228d9ac4a4d234eced76a"), looks := false }, kinds := [], alts := [], laidByText := true, laidKinds := [.data, .pinned], laidTests := true, laidLooks := .later }
def GraphemeSequencesUptoCardSaid : Prop := Claim7.holds Tryd.pinned (.plain (OpenSpec.upto graphemeSequencesSpec)) graphemeSequencesUptoCard

/-- THE SECOND FORM's CARD OF 'obeluslaw02.GraphemeLines'. -/
def graphemeLinesUptoCard : Claim7 := { stood := { row := graphemeLinesUptoRow, standIns := [], harness := (true, "35da5da69dc09bf603562e7c66ba057cd155d118a7e228d9ac4a4d234eced76a"), looks := false }, kinds := [], alts := [], laidByText := true, laidKinds := [.data, .pinned], laidTests := true, laidLooks := .later }
def GraphemeLinesUptoCardSaid : Prop := Claim7.holds Tryd.pinned (.plain (OpenSpec.upto graphemeLinesSpec)) graphemeLinesUptoCard

/-- THE SECOND FORM's CARD OF 'obeluslaw02.GraphemeTruncates'. -/
def graphemeTruncatesUptoCard : Claim7 := { stood := { row := graphemeTruncatesUptoRow, standIns := [], harness := (true, "35da5da69dc09bf603562e7c66ba057cd155d118a7e228d9ac4a4d234eced76a"), looks := false }, kinds := [], alts := [], laidByText := true, laidKinds := [.data, .pinned], laidTests := true, laidLooks := .later }
def GraphemeTruncatesUptoCardSaid : Prop := Claim7.holds Tryd.pinned (.plain (OpenSpec.upto graphemeTruncatesSpec)) graphemeTruncatesUptoCard

/-- THE SECOND FORM's CARD OF 'obeluslaw02.GraphemeWalks'. -/
def graphemeWalksUptoCard : Claim7 := { stood := { row := graphemeWalksUptoRow, standIns := [], harness := (true, "35da5da69dc09bf603562e7c66ba057cd155d118a7e228d9ac4a4d234eced76a"), looks := false }, kinds := [], alts := [], laidByText := true, laidKinds := [.data, .pinned], laidTests := true, laidLooks := .later }
def GraphemeWalksUptoCardSaid : Prop := Claim7.holds Tryd.pinned (.plain (OpenSpec.upto graphemeWalksSpec)) graphemeWalksUptoCard

/-- THE SECOND FORM's CARD OF 'obeluslaw02.GraphemeMoves'. -/
def graphemeMovesUptoCard : Claim7 := { stood := { row := graphemeMovesUptoRow, standIns := [], harness := (true, "35da5da69dc09bf603562e7c66ba057cd155d118a7e228d9ac4a4d234eced76a"), looks := false }, kinds := [], alts := [], laidByText := true, laidKinds := [.data, .pinned], laidTests := true, laidLooks := .later }
def GraphemeMovesUptoCardSaid : Prop := Claim7.holds Tryd.pinned (.plain (OpenSpec.upto graphemeMovesSpec)) graphemeMovesUptoCard
end Rows
end Go.Proofs.YtkedjbommcfhiaaDoor
