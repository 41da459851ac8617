/-
  DERIVED. GIVEN WITH THE SEED: THE CARDS: each row of YtcfnfioefbkamaaDoorRows.lean that lists a variable, with what it lists TIED to the program's text (the seventh form; the later family's looks); each row that meets fmt, with fmt's text TOLD by the authors' own Lean function (tested against real Go, not proved from fmt's source: count such statements apart). THE CARD IS WHAT COUNTS. Prove the row's statement (the work); the ties are given (YtcfnfioefbkamaaDoorTie.lean); close each card by the builder's one call (the guide's Derived/Test/ToyasCard.lean, 'card_holds'). Laid BY PROGRAM, IN A SANDBOX (cutbox-door.mjs). By AI agents, Wed Nov 11 2026. No macro, syntax, notation, axiom, sorry.
-/
import Derived.Test.YtcfnfioefbkamaaDoorRows
import GoSem.ClaimSeven
namespace Go.Proofs.YtcfnfioefbkamaaDoor
namespace Rows

/-- THE TIED CARD OF 'obeluslaw03.SegmentTokens'. -/
def segmentTokensCard : Claim7 := { stood := { row := segmentTokensRow, standIns := [], harness := (true, "79f308c07fb757dca4c1ca8882e1da846e9719457a0f2487df581b73ad3ea9da"), looks := false }, kinds := [], alts := [], laidByText := true, laidKinds := [.data, .pinned], laidTests := true, laidLooks := .later }
def SegmentTokensCardSaid : Prop := Claim7.holds Tryd.pinned (.plain (OpenSpec.ofChange segmentTokensSpec)) segmentTokensCard

/-- THE TIED CARD OF 'obeluslaw03.SegmentCovers'. -/
def segmentCoversCard : Claim7 := { stood := { row := segmentCoversRow, standIns := [], harness := (true, "79f308c07fb757dca4c1ca8882e1da846e9719457a0f2487df581b73ad3ea9da"), looks := false }, kinds := [], alts := [], laidByText := true, laidKinds := [.data, .pinned], laidTests := true, laidLooks := .later }
def SegmentCoversCardSaid : Prop := Claim7.holds Tryd.pinned (.plain (OpenSpec.ofChange segmentCoversSpec)) segmentCoversCard

/-- THE TIED CARD OF 'obeluslaw03.SegmentBreaks'. -/
def segmentBreaksCard : Claim7 := { stood := { row := segmentBreaksRow, standIns := [], harness := (true, "79f308c07fb757dca4c1ca8882e1da846e9719457a0f2487df581b73ad3ea9da"), looks := false }, kinds := [], alts := [], laidByText := true, laidKinds := [.data, .pinned], laidTests := true, laidLooks := .later }
def SegmentBreaksCardSaid : Prop := Claim7.holds Tryd.pinned (.plain (OpenSpec.ofChange segmentBreaksSpec)) segmentBreaksCard

/-- THE TIED CARD OF 'obeluslaw03.SegmentJoins'. -/
def segmentJoinsCard : Claim7 := { stood := { row := segmentJoinsRow, standIns := [], harness := (true, "79f308c07fb757dca4c1ca8882e1da846e9719457a0f2487df581b73ad3ea9da"), looks := false }, kinds := [], alts := [], laidByText := true, laidKinds := [.data, .pinned], laidTests := true, laidLooks := .later }
def SegmentJoinsCardSaid : Prop := Claim7.holds Tryd.pinned (.plain (OpenSpec.ofChange segmentJoinsSpec)) segmentJoinsCard

/-- THE TIED CARD OF 'obeluslaw03.SegmentClasses'. -/
def segmentClassesCard : Claim7 := { stood := { row := segmentClassesRow, standIns := [], harness := (true, "79f308c07fb757dca4c1ca8882e1da846e9719457a0f2487df581b73ad3ea9da"), looks := false }, kinds := [], alts := [], laidByText := true, laidKinds := [.data, .pinned], laidTests := true, laidLooks := .later }
def SegmentClassesCardSaid : Prop := Claim7.holds Tryd.pinned (.plain (OpenSpec.ofChange segmentClassesSpec)) segmentClassesCard

/-- THE TIED CARD OF 'obeluslaw03.SegmentBorders'. -/
def segmentBordersCard : Claim7 := { stood := { row := segmentBordersRow, standIns := [], harness := (true, "79f308c07fb757dca4c1ca8882e1da846e9719457a0f2487df581b73ad3ea9da"), looks := false }, kinds := [], alts := [], laidByText := true, laidKinds := [.data, .pinned], laidTests := true, laidLooks := .later }
def SegmentBordersCardSaid : Prop := Claim7.holds Tryd.pinned (.plain (OpenSpec.ofChange segmentBordersSpec)) segmentBordersCard

/-- THE TIED CARD OF 'obeluslaw03.SegmentTexts'. -/
def segmentTextsCard : Claim7 := { stood := { row := segmentTextsRow, standIns := [], harness := (true, "79f308c07fb757dca4c1ca8882e1da846e9719457a0f2487df581b73ad3ea9da"), looks := false }, kinds := [], alts := [], laidByText := true, laidKinds := [.data, .pinned], laidTests := true, laidLooks := .later }
def SegmentTextsCardSaid : Prop := Claim7.holds Tryd.pinned (.plain (OpenSpec.ofChange segmentTextsSpec)) segmentTextsCard

/-- THE TIED CARD OF 'obeluslaw03.SegmentVisits'. -/
def segmentVisitsCard : Claim7 := { stood := { row := segmentVisitsRow, standIns := [], harness := (true, "79f308c07fb757dca4c1ca8882e1da846e9719457a0f2487df581b73ad3ea9da"), looks := false }, kinds := [], alts := [], laidByText := true, laidKinds := [.data, .pinned], laidTests := true, laidLooks := .later }
def SegmentVisitsCardSaid : Prop := Claim7.holds Tryd.pinned (.plain (OpenSpec.ofChange segmentVisitsSpec)) segmentVisitsCard

/-- THE TIED CARD OF 'obeluslaw03.SegmentFinds'. -/
def segmentFindsCard : Claim7 := { stood := { row := segmentFindsRow, standIns := [], harness := (true, "79f308c07fb757dca4c1ca8882e1da846e9719457a0f2487df581b73ad3ea9da"), looks := false }, kinds := [], alts := [], laidByText := true, laidKinds := [.data, .pinned], laidTests := true, laidLooks := .later }
def SegmentFindsCardSaid : Prop := Claim7.holds Tryd.pinned (.plain (OpenSpec.ofChange segmentFindsSpec)) segmentFindsCard

/-- THE SECOND FORM's CARD OF 'obeluslaw03.SegmentTokens'. -/
def segmentTokensUptoCard : Claim7 := { stood := { row := segmentTokensUptoRow, standIns := [], harness := (true, "79f308c07fb757dca4c1ca8882e1da846e9719457a0f2487df581b73ad3ea9da"), looks := false }, kinds := [], alts := [], laidByText := true, laidKinds := [.data, .pinned], laidTests := true, laidLooks := .later }
def SegmentTokensUptoCardSaid : Prop := Claim7.holds Tryd.pinned (.plain (OpenSpec.upto segmentTokensSpec)) segmentTokensUptoCard

/-- THE SECOND FORM's CARD OF 'obeluslaw03.SegmentCovers'. -/
def segmentCoversUptoCard : Claim7 := { stood := { row := segmentCoversUptoRow, standIns := [], harness := (true, "79f308c07fb757dca4c1ca8882e1da846e9719457a0f2487df581b73ad3ea9da"), looks := false }, kinds := [], alts := [], laidByText := true, laidKinds := [.data, .pinned], laidTests := true, laidLooks := .later }
def SegmentCoversUptoCardSaid : Prop := Claim7.holds Tryd.pinned (.plain (OpenSpec.upto segmentCoversSpec)) segmentCoversUptoCard

/-- THE SECOND FORM's CARD OF 'obeluslaw03.SegmentBreaks'. -/
def segmentBreaksUptoCard : Claim7 := { stood := { row := segmentBreaksUptoRow, standIns := [], harness := (true, "79f308c07fb757dca4c1ca8882e1da846e9719457a0f2487df581b73ad3ea9da"), looks := false }, kinds := [], alts := [], laidByText := true, laidKinds := [.data, .pinned], laidTests := true, laidLooks := .later }
def SegmentBreaksUptoCardSaid : Prop := Claim7.holds Tryd.pinned (.plain (OpenSpec.upto segmentBreaksSpec)) segmentBreaksUptoCard

/-- THE SECOND FORM's CARD OF 'obeluslaw03.SegmentJoins'. -/
def segmentJoinsUptoCard : Claim7 := { stood := { row := segmentJoinsUptoRow, standIns := [], harness := (true, "79f308c07fb757dca4c1ca8882e1da846e9719457a0f2487df581b73ad3ea9da"), looks := false }, kinds := [], alts := [], laidByText := true, laidKinds := [.data, .pinned], laidTests := true, laidLooks := .later }
def SegmentJoinsUptoCardSaid : Prop := Claim7.holds Tryd.pinned (.plain (OpenSpec.upto segmentJoinsSpec)) segmentJoinsUptoCard

/-- THE SECOND FORM's CARD OF 'obeluslaw03.SegmentClasses'. -/
def segmentClassesUptoCard : Claim7 := { stood := { row := segmentClassesUptoRow, standIns := [], harness := (true, "79f308c07fb757dca4c1ca8882e1da846e9719457a0f2487df581b73ad3ea9da"), looks := false }, kinds := [], alts := [], laidByText := true, laidKinds := [.data, .pinned], laidTests := true, laidLooks := .later }
def SegmentClassesUptoCardSaid : Prop := Claim7.holds Tryd.pinned (.plain (OpenSpec.upto segmentClassesSpec)) segmentClassesUptoCard

/-- THE SECOND FORM's CARD OF 'obeluslaw03.SegmentBorders'. -/
def segmentBordersUptoCard : Claim7 := { stood := { row := segmentBordersUptoRow, standIns := [], harness := (true, "79f308c07fb757dca4c1ca8882e1da846e9719457a0f2487df581b73ad3ea9da"), looks := false }, kinds := [], alts := [], laidByText := true, laidKinds := [.data, .pinned], laidTests := true, laidLooks := .later }
def SegmentBordersUptoCardSaid : Prop := Claim7.holds Tryd.pinned (.plain (OpenSpec.upto segmentBordersSpec)) segmentBordersUptoCard

/-- THE SECOND FORM's CARD OF 'obeluslaw03.SegmentTexts'. -/
def segmentTextsUptoCard : Claim7 := { stood := { row := segmentTextsUptoRow, standIns := [], harness := (true, "79f308c07fb757dca4c1ca8882e1da846e9719457a0f2487df581b73ad3ea9da"), looks := false }, kinds := [], alts := [], laidByText := true, laidKinds := [.data, .pinned], laidTests := true, laidLooks := .later }
def SegmentTextsUptoCardSaid : Prop := Claim7.holds Tryd.pinned (.plain (OpenSpec.upto segmentTextsSpec)) segmentTextsUptoCard

/-- THE SECOND FORM's CARD OF 'obeluslaw03.SegmentVisits'. -/
def segmentVisitsUptoCard : Claim7 := { stood := { row := segmentVisitsUptoRow, standIns := [], harness := (true, "79f308c07fb757dca4c1ca8882e1da846e9719457a0f2487df581b73ad3ea9da"), looks := false }, kinds := [], alts := [], laidByText := true, laidKinds := [.data, .pinned], laidTests := true, laidLooks := .later }
def SegmentVisitsUptoCardSaid : Prop := Claim7.holds Tryd.pinned (.plain (OpenSpec.upto segmentVisitsSpec)) segmentVisitsUptoCard

/-- THE SECOND FORM's CARD OF 'obeluslaw03.SegmentFinds'. -/
def segmentFindsUptoCard : Claim7 := { stood := { row := segmentFindsUptoRow, standIns := [], harness := (true, "79f308c07fb757dca4c1ca8882e1da846e9719457a0f2487df581b73ad3ea9da"), looks := false }, kinds := [], alts := [], laidByText := true, laidKinds := [.data, .pinned], laidTests := true, laidLooks := .later }
def SegmentFindsUptoCardSaid : Prop := Claim7.holds Tryd.pinned (.plain (OpenSpec.upto segmentFindsSpec)) segmentFindsUptoCard
end Rows
end Go.Proofs.YtcfnfioefbkamaaDoor
