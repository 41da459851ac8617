/-
  DERIVED. GIVEN WITH THE SEED: THE CARDS: each row of YtkmgogabbefonaaDoorRows.lean that lists a variable, with what it lists TIED to the program's text (the seventh form; the later family's looks); each row that meets fmt, with fmt's text TOLD by the authors' own Lean function (tested against real Go, not proved from fmt's source: count such statements apart). THE CARD IS WHAT COUNTS. Prove the row's statement (the work); the ties are given (YtkmgogabbefonaaDoorTie.lean); close each card by the builder's one call (the guide's Derived/Test/ToyasCard.lean, 'card_holds'). Laid BY PROGRAM, IN A SANDBOX (cutbox-door.mjs). By AI agents, Wed Nov 11 2026. No macro, syntax, notation, axiom, sorry.
-/
import Derived.Test.YtkmgogabbefonaaDoorRows
import GoSem.ClaimSeven
namespace Go.Proofs.YtkmgogabbefonaaDoor
namespace Rows

/-- THE TIED CARD OF 'obeluslaw44.MetricsWidths'. -/
def metricsWidthsCard : Claim7 := { stood := { row := metricsWidthsRow, standIns := [], harness := (true, "042fcc9a1b0a1ef842b7b516b6ab1f73001ff2ed98105223cb962b353bf590b4"), looks := false }, kinds := [], alts := [], laidByText := true, laidKinds := [.data, .pinned], laidTests := true, laidLooks := .later }
def MetricsWidthsCardSaid : Prop := Claim7.holds Tryd.pinned (.plain (OpenSpec.ofChange metricsWidthsSpec)) metricsWidthsCard

/-- THE TIED CARD OF 'obeluslaw44.MetricsOffsets'. -/
def metricsOffsetsCard : Claim7 := { stood := { row := metricsOffsetsRow, standIns := [], harness := (true, "042fcc9a1b0a1ef842b7b516b6ab1f73001ff2ed98105223cb962b353bf590b4"), looks := false }, kinds := [], alts := [], laidByText := true, laidKinds := [.data, .pinned], laidTests := true, laidLooks := .later }
def MetricsOffsetsCardSaid : Prop := Claim7.holds Tryd.pinned (.plain (OpenSpec.ofChange metricsOffsetsSpec)) metricsOffsetsCard

/-- THE TIED CARD OF 'obeluslaw44.MetricsGlue'. -/
def metricsGlueCard : Claim7 := { stood := { row := metricsGlueRow, standIns := [], harness := (true, "042fcc9a1b0a1ef842b7b516b6ab1f73001ff2ed98105223cb962b353bf590b4"), looks := false }, kinds := [], alts := [], laidByText := true, laidKinds := [.data, .pinned], laidTests := true, laidLooks := .later }
def MetricsGlueCardSaid : Prop := Claim7.holds Tryd.pinned (.plain (OpenSpec.ofChange metricsGlueSpec)) metricsGlueCard

/-- THE TIED CARD OF 'obeluslaw44.MetricsKerns'. -/
def metricsKernsCard : Claim7 := { stood := { row := metricsKernsRow, standIns := [], harness := (true, "042fcc9a1b0a1ef842b7b516b6ab1f73001ff2ed98105223cb962b353bf590b4"), looks := false }, kinds := [], alts := [], laidByText := true, laidKinds := [.data, .pinned], laidTests := true, laidLooks := .later }
def MetricsKernsCardSaid : Prop := Claim7.holds Tryd.pinned (.plain (OpenSpec.ofChange metricsKernsSpec)) metricsKernsCard

/-- THE TIED CARD OF 'obeluslaw44.MetricsAdds'. -/
def metricsAddsCard : Claim7 := { stood := { row := metricsAddsRow, standIns := [], harness := (true, "042fcc9a1b0a1ef842b7b516b6ab1f73001ff2ed98105223cb962b353bf590b4"), looks := false }, kinds := [], alts := [], laidByText := true, laidKinds := [.data, .pinned], laidTests := true, laidLooks := .later }
def MetricsAddsCardSaid : Prop := Claim7.holds Tryd.pinned (.plain (OpenSpec.ofChange metricsAddsSpec)) metricsAddsCard

/-- THE TIED CARD OF 'obeluslaw44.MetricsFits'. -/
def metricsFitsCard : Claim7 := { stood := { row := metricsFitsRow, standIns := [], harness := (true, "042fcc9a1b0a1ef842b7b516b6ab1f73001ff2ed98105223cb962b353bf590b4"), looks := false }, kinds := [], alts := [], laidByText := true, laidKinds := [.data, .pinned], laidTests := true, laidLooks := .later }
def MetricsFitsCardSaid : Prop := Claim7.holds Tryd.pinned (.plain (OpenSpec.ofChange metricsFitsSpec)) metricsFitsCard

/-- THE TIED CARD OF 'obeluslaw44.MetricsLines'. -/
def metricsLinesCard : Claim7 := { stood := { row := metricsLinesRow, standIns := [], harness := (true, "042fcc9a1b0a1ef842b7b516b6ab1f73001ff2ed98105223cb962b353bf590b4"), looks := false }, kinds := [], alts := [], laidByText := true, laidKinds := [.data, .pinned], laidTests := true, laidLooks := .later }
def MetricsLinesCardSaid : Prop := Claim7.holds Tryd.pinned (.plain (OpenSpec.ofChange metricsLinesSpec)) metricsLinesCard

/-- THE TIED CARD OF 'obeluslaw44.MetricsHits'. -/
def metricsHitsCard : Claim7 := { stood := { row := metricsHitsRow, standIns := [], harness := (true, "042fcc9a1b0a1ef842b7b516b6ab1f73001ff2ed98105223cb962b353bf590b4"), looks := false }, kinds := [], alts := [], laidByText := true, laidKinds := [.data, .pinned], laidTests := true, laidLooks := .later }
def MetricsHitsCardSaid : Prop := Claim7.holds Tryd.pinned (.plain (OpenSpec.ofChange metricsHitsSpec)) metricsHitsCard

/-- THE TIED CARD OF 'obeluslaw44.MetricsFonts'. -/
def metricsFontsCard : Claim7 := { stood := { row := metricsFontsRow, standIns := [], harness := (true, "042fcc9a1b0a1ef842b7b516b6ab1f73001ff2ed98105223cb962b353bf590b4"), looks := false }, kinds := [], alts := [], laidByText := true, laidKinds := [.data, .pinned], laidTests := true, laidLooks := .later }
def MetricsFontsCardSaid : Prop := Claim7.holds Tryd.pinned (.plain (OpenSpec.ofChange metricsFontsSpec)) metricsFontsCard

/-- THE SECOND FORM's CARD OF 'obeluslaw44.MetricsWidths'. -/
def metricsWidthsUptoCard : Claim7 := { stood := { row := metricsWidthsUptoRow, standIns := [], harness := (true, "042fcc9a1b0a1ef842b7b516b6ab1f73001ff2ed98105223cb962b353bf590b4"), looks := false }, kinds := [], alts := [], laidByText := true, laidKinds := [.data, .pinned], laidTests := true, laidLooks := .later }
def MetricsWidthsUptoCardSaid : Prop := Claim7.holds Tryd.pinned (.plain (OpenSpec.upto metricsWidthsSpec)) metricsWidthsUptoCard

/-- THE SECOND FORM's CARD OF 'obeluslaw44.MetricsOffsets'. -/
def metricsOffsetsUptoCard : Claim7 := { stood := { row := metricsOffsetsUptoRow, standIns := [], harness := (true, "042fcc9a1b0a1ef842b7b516b6ab1f73001ff2ed98105223cb962b353bf590b4"), looks := false }, kinds := [], alts := [], laidByText := true, laidKinds := [.data, .pinned], laidTests := true, laidLooks := .later }
def MetricsOffsetsUptoCardSaid : Prop := Claim7.holds Tryd.pinned (.plain (OpenSpec.upto metricsOffsetsSpec)) metricsOffsetsUptoCard

/-- THE SECOND FORM's CARD OF 'obeluslaw44.MetricsGlue'. -/
def metricsGlueUptoCard : Claim7 := { stood := { row := metricsGlueUptoRow, standIns := [], harness := (true, "042fcc9a1b0a1ef842b7b516b6ab1f73001ff2ed98105223cb962b353bf590b4"), looks := false }, kinds := [], alts := [], laidByText := true, laidKinds := [.data, .pinned], laidTests := true, laidLooks := .later }
def MetricsGlueUptoCardSaid : Prop := Claim7.holds Tryd.pinned (.plain (OpenSpec.upto metricsGlueSpec)) metricsGlueUptoCard

/-- THE SECOND FORM's CARD OF 'obeluslaw44.MetricsKerns'. -/
def metricsKernsUptoCard : Claim7 := { stood := { row := metricsKernsUptoRow, standIns := [], harness := (true, "042fcc9a1b0a1ef842b7b516b6ab1f73001ff2ed98105223cb962b353bf590b4"), looks := false }, kinds := [], alts := [], laidByText := true, laidKinds := [.data, .pinned], laidTests := true, laidLooks := .later }
def MetricsKernsUptoCardSaid : Prop := Claim7.holds Tryd.pinned (.plain (OpenSpec.upto metricsKernsSpec)) metricsKernsUptoCard

/-- THE SECOND FORM's CARD OF 'obeluslaw44.MetricsAdds'. -/
def metricsAddsUptoCard : Claim7 := { stood := { row := metricsAddsUptoRow, standIns := [], harness := (true, "042fcc9a1b0a1ef842b7b516b6ab1f73001ff2ed98105223cb962b353bf590b4"), looks := false }, kinds := [], alts := [], laidByText := true, laidKinds := [.data, .pinned], laidTests := true, laidLooks := .later }
def MetricsAddsUptoCardSaid : Prop := Claim7.holds Tryd.pinned (.plain (OpenSpec.upto metricsAddsSpec)) metricsAddsUptoCard

/-- THE SECOND FORM's CARD OF 'obeluslaw44.MetricsFits'. -/
def metricsFitsUptoCard : Claim7 := { stood := { row := metricsFitsUptoRow, standIns := [], harness := (true, "042fcc9a1b0a1ef842b7b516b6ab1f73001ff2ed98105223cb962b353bf590b4"), looks := false }, kinds := [], alts := [], laidByText := true, laidKinds := [.data, .pinned], laidTests := true, laidLooks := .later }
def MetricsFitsUptoCardSaid : Prop := Claim7.holds Tryd.pinned (.plain (OpenSpec.upto metricsFitsSpec)) metricsFitsUptoCard

/-- THE SECOND FORM's CARD OF 'obeluslaw44.MetricsLines'. -/
def metricsLinesUptoCard : Claim7 := { stood := { row := metricsLinesUptoRow, standIns := [], harness := (true, "042fcc9a1b0a1ef842b7b516b6ab1f73001ff2ed98105223cb962b353bf590b4"), looks := false }, kinds := [], alts := [], laidByText := true, laidKinds := [.data, .pinned], laidTests := true, laidLooks := .later }
def MetricsLinesUptoCardSaid : Prop := Claim7.holds Tryd.pinned (.plain (OpenSpec.upto metricsLinesSpec)) metricsLinesUptoCard

/-- THE SECOND FORM's CARD OF 'obeluslaw44.MetricsHits'. -/
def metricsHitsUptoCard : Claim7 := { stood := { row := metricsHitsUptoRow, standIns := [], harness := (true, "042fcc9a1b0a1ef842b7b516b6ab1f73001ff2ed98105223cb962b353bf590b4"), looks := false }, kinds := [], alts := [], laidByText := true, laidKinds := [.data, .pinned], laidTests := true, laidLooks := .later }
def MetricsHitsUptoCardSaid : Prop := Claim7.holds Tryd.pinned (.plain (OpenSpec.upto metricsHitsSpec)) metricsHitsUptoCard

/-- THE SECOND FORM's CARD OF 'obeluslaw44.MetricsFonts'. -/
def metricsFontsUptoCard : Claim7 := { stood := { row := metricsFontsUptoRow, standIns := [], harness := (true, "042fcc9a1b0a1ef842b7b516b6ab1f73001ff2ed98105223cb962b353bf590b4"), looks := false }, kinds := [], alts := [], laidByText := true, laidKinds := [.data, .pinned], laidTests := true, laidLooks := .later }
def MetricsFontsUptoCardSaid : Prop := Claim7.holds Tryd.pinned (.plain (OpenSpec.upto metricsFontsSpec)) metricsFontsUptoCard
end Rows
end Go.Proofs.YtkmgogabbefonaaDoor
