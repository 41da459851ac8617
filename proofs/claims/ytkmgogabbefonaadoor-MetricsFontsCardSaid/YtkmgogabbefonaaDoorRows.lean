/-
  NARROWER THAN 'FOR EVERY INPUT', by the rows' own cells (each row's printed sentence says how): MetricsWidths: laid · MetricsOffsets: laid · MetricsGlue: laid · MetricsKerns: laid · MetricsAdds: laid · MetricsFits: laid · MetricsLines: laid · MetricsHits: laid · MetricsFonts: laid.
  DERIVED. THE GIVEN ROWS OF THIS SEAT. 9 by the template 'for every input the law returns true; each argument reads behind the call as it read before'; 0 by the template 'total and deterministic' (their statements: YtkmgogabbefonaaDoorTotals.lean).
  GIVEN WITH THE SEED: the statements are not yours to turn. If you find one false, say at which input.
  Laid BY PROGRAM, IN A SANDBOX (cutbox-rows.mjs): the forced cells as the released guide's own fill.sh prints them over the translation 45b207b69716d8b5… (all of the seat's roots in one cut). By AI agents, Wed Nov 11 2026. No macro, syntax, notation, axiom, sorry.
-/
import Derived.Test.YtkmgogabbefonaaDoorChecked
import GoSem.PinnedTables
import GoSem.Claim
import GoSem.ClaimJoined
import GoSem.ClaimMapViews
import Derived.JoinedTies
import Derived.KernelRfl
namespace Go.Proofs.YtkmgogabbefonaaDoor
/- THE CELL 'sum', in the pinned program and in every row, IS THE sha256 OF THE DUMP (.gsa) THAT YtkmgogabbefonaaDoorProg.lean LOADS. Nothing in Lean hashes anything: it is a label: what it is worth is what the hold of that sum in a sandbox is worth. -/
noncomputable def Tryd.pinned : Pinned := { name := "ytkmgogabbefonaadoor", sum := "45b207b69716d8b5f68fb86ce076b3827459dcf98556582b85639e1ba4bc5aeb", checked := Tryd.checked }
namespace Rows
def none {H : Type} : Left H := { results := [], args := [] }

/- WHAT THE LISTED PACKAGE-LEVEL VARIABLES READ AS WHEN THE CALL BEGINS. Each datum BY PROGRAM (the guide's laid-datum.mjs) off the statement by which the dump's own 'gosem.cut.vars' lays the variable. In a bare row this is a premise. The card (YtkmgogabbefonaaDoorCards.lean) ties it to the program's text. -/
def laid_unicode_utf8_acceptRanges {H : Type} : DataW H := .agg [.agg [.lit (.int .u8 128), .lit (.int .u8 191)], .agg [.lit (.int .u8 160), .lit (.int .u8 191)], .agg [.lit (.int .u8 128), .lit (.int .u8 159)], .agg [.lit (.int .u8 144), .lit (.int .u8 191)], .agg [.lit (.int .u8 128), .lit (.int .u8 143)], .agg [.lit (.int .u8 0), .lit (.int .u8 0)], .agg [.lit (.int .u8 0), .lit (.int .u8 0)], .agg [.lit (.int .u8 0), .lit (.int .u8 0)], .agg [.lit (.int .u8 0), .lit (.int .u8 0)], .agg [.lit (.int .u8 0), .lit (.int .u8 0)], .agg [.lit (.int .u8 0), .lit (.int .u8 0)], .agg [.lit (.int .u8 0), .lit (.int .u8 0)], .agg [.lit (.int .u8 0), .lit (.int .u8 0)], .agg [.lit (.int .u8 0), .lit (.int .u8 0)], .agg [.lit (.int .u8 0), .lit (.int .u8 0)], .agg [.lit (.int .u8 0), .lit (.int .u8 0)]]
/-- One of Go's own tables, pinned by name: the form's constant. -/
def laid_unicode_utf8_first : DataW Unit := Go.Pinned.utf8First

/-- 'obeluslaw44.MetricsWidths': WHATEVER THE INPUT: true; the input reads as it did. -/
def metricsWidthsSpec : ChangeSpec := { name := "metricsWidths", fn := fun _ => fun
  | [d1, d2] => { results := [.lit (.bool true)], args := [d1, d2] }
  | _ => none }
def metricsWidthsRow : OpenClaim := { program := "ytkmgogabbefonaadoor", sum := "45b207b69716d8b5f68fb86ce076b3827459dcf98556582b85639e1ba4bc5aeb", func := "obelus/obeluslaw44.MetricsWidths", spec := "metricsWidths", inPlace := ["internal/bytealg.IndexByteString", "internal/bytealg.IndexString"], unfollowed := true, recurses := true, named := ["unicode/utf8.first", "unicode/utf8.acceptRanges", "internal/bytealg.MaxLen"], apart := false, laid := [("unicode/utf8.acceptRanges", laid_unicode_utf8_acceptRanges), ("unicode/utf8.first", laid_unicode_utf8_first)] }
def MetricsWidthsSaid : Prop := metricsWidthsRow.holds Tryd.pinned (OpenSpec.ofChange metricsWidthsSpec)

/-- ITS FALSE NEIGHBOUR: 'it returns false'. Refute it at one input. -/
def metricsWidthsWrong : ChangeSpec := { name := "metricsWidths", fn := fun _ => fun
  | [d1, d2] => { results := [.lit (.bool false)], args := [d1, d2] }
  | _ => none }
def MetricsWidthsWrongFalsely : Prop := metricsWidthsRow.holds Tryd.pinned (OpenSpec.ofChange metricsWidthsWrong)

/-- 'obeluslaw44.MetricsOffsets': WHATEVER THE INPUT: true; the input reads as it did. -/
def metricsOffsetsSpec : ChangeSpec := { name := "metricsOffsets", fn := fun _ => fun
  | [d1, d2] => { results := [.lit (.bool true)], args := [d1, d2] }
  | _ => none }
def metricsOffsetsRow : OpenClaim := { program := "ytkmgogabbefonaadoor", sum := "45b207b69716d8b5f68fb86ce076b3827459dcf98556582b85639e1ba4bc5aeb", func := "obelus/obeluslaw44.MetricsOffsets", spec := "metricsOffsets", inPlace := ["internal/bytealg.IndexByteString", "internal/bytealg.IndexString"], unfollowed := true, recurses := true, named := ["unicode/utf8.first", "unicode/utf8.acceptRanges", "internal/bytealg.MaxLen"], apart := false, laid := [("unicode/utf8.acceptRanges", laid_unicode_utf8_acceptRanges), ("unicode/utf8.first", laid_unicode_utf8_first)] }
def MetricsOffsetsSaid : Prop := metricsOffsetsRow.holds Tryd.pinned (OpenSpec.ofChange metricsOffsetsSpec)

/-- ITS FALSE NEIGHBOUR: 'it returns false'. Refute it at one input. -/
def metricsOffsetsWrong : ChangeSpec := { name := "metricsOffsets", fn := fun _ => fun
  | [d1, d2] => { results := [.lit (.bool false)], args := [d1, d2] }
  | _ => none }
def MetricsOffsetsWrongFalsely : Prop := metricsOffsetsRow.holds Tryd.pinned (OpenSpec.ofChange metricsOffsetsWrong)

/-- 'obeluslaw44.MetricsGlue': WHATEVER THE INPUT: true; the input reads as it did. -/
def metricsGlueSpec : ChangeSpec := { name := "metricsGlue", fn := fun _ => fun
  | [d] => { results := [.lit (.bool true)], args := [d] }
  | _ => none }
def metricsGlueRow : OpenClaim := { program := "ytkmgogabbefonaadoor", sum := "45b207b69716d8b5f68fb86ce076b3827459dcf98556582b85639e1ba4bc5aeb", func := "obelus/obeluslaw44.MetricsGlue", spec := "metricsGlue", inPlace := ["internal/bytealg.IndexByteString", "internal/bytealg.IndexString"], unfollowed := true, recurses := true, named := ["unicode/utf8.first", "unicode/utf8.acceptRanges", "internal/bytealg.MaxLen"], apart := false, laid := [("unicode/utf8.acceptRanges", laid_unicode_utf8_acceptRanges), ("unicode/utf8.first", laid_unicode_utf8_first)] }
def MetricsGlueSaid : Prop := metricsGlueRow.holds Tryd.pinned (OpenSpec.ofChange metricsGlueSpec)

/-- ITS FALSE NEIGHBOUR: 'it returns false'. Refute it at one input. -/
def metricsGlueWrong : ChangeSpec := { name := "metricsGlue", fn := fun _ => fun
  | [d] => { results := [.lit (.bool false)], args := [d] }
  | _ => none }
def MetricsGlueWrongFalsely : Prop := metricsGlueRow.holds Tryd.pinned (OpenSpec.ofChange metricsGlueWrong)

/-- 'obeluslaw44.MetricsKerns': WHATEVER THE INPUT: true; the input reads as it did. -/
def metricsKernsSpec : ChangeSpec := { name := "metricsKerns", fn := fun _ => fun
  | [d1, d2, d3] => { results := [.lit (.bool true)], args := [d1, d2, d3] }
  | _ => none }
def metricsKernsRow : OpenClaim := { program := "ytkmgogabbefonaadoor", sum := "45b207b69716d8b5f68fb86ce076b3827459dcf98556582b85639e1ba4bc5aeb", func := "obelus/obeluslaw44.MetricsKerns", spec := "metricsKerns", inPlace := ["internal/bytealg.IndexByteString", "internal/bytealg.IndexString"], unfollowed := true, recurses := true, named := ["unicode/utf8.first", "unicode/utf8.acceptRanges", "internal/bytealg.MaxLen"], apart := false, laid := [("unicode/utf8.acceptRanges", laid_unicode_utf8_acceptRanges), ("unicode/utf8.first", laid_unicode_utf8_first)] }
def MetricsKernsSaid : Prop := metricsKernsRow.holds Tryd.pinned (OpenSpec.ofChange metricsKernsSpec)

/-- ITS FALSE NEIGHBOUR: 'it returns false'. Refute it at one input. -/
def metricsKernsWrong : ChangeSpec := { name := "metricsKerns", fn := fun _ => fun
  | [d1, d2, d3] => { results := [.lit (.bool false)], args := [d1, d2, d3] }
  | _ => none }
def MetricsKernsWrongFalsely : Prop := metricsKernsRow.holds Tryd.pinned (OpenSpec.ofChange metricsKernsWrong)

/-- 'obeluslaw44.MetricsAdds': WHATEVER THE INPUT: true; the input reads as it did. -/
def metricsAddsSpec : ChangeSpec := { name := "metricsAdds", fn := fun _ => fun
  | [d1, d2, d3] => { results := [.lit (.bool true)], args := [d1, d2, d3] }
  | _ => none }
def metricsAddsRow : OpenClaim := { program := "ytkmgogabbefonaadoor", sum := "45b207b69716d8b5f68fb86ce076b3827459dcf98556582b85639e1ba4bc5aeb", func := "obelus/obeluslaw44.MetricsAdds", spec := "metricsAdds", inPlace := ["internal/bytealg.IndexByteString", "internal/bytealg.IndexString"], unfollowed := true, recurses := true, named := ["unicode/utf8.first", "unicode/utf8.acceptRanges", "internal/bytealg.MaxLen"], apart := false, laid := [("unicode/utf8.acceptRanges", laid_unicode_utf8_acceptRanges), ("unicode/utf8.first", laid_unicode_utf8_first)] }
def MetricsAddsSaid : Prop := metricsAddsRow.holds Tryd.pinned (OpenSpec.ofChange metricsAddsSpec)

/-- ITS FALSE NEIGHBOUR: 'it returns false'. Refute it at one input. -/
def metricsAddsWrong : ChangeSpec := { name := "metricsAdds", fn := fun _ => fun
  | [d1, d2, d3] => { results := [.lit (.bool false)], args := [d1, d2, d3] }
  | _ => none }
def MetricsAddsWrongFalsely : Prop := metricsAddsRow.holds Tryd.pinned (OpenSpec.ofChange metricsAddsWrong)

/-- 'obeluslaw44.MetricsFits': WHATEVER THE INPUT: true; the input reads as it did. -/
def metricsFitsSpec : ChangeSpec := { name := "metricsFits", fn := fun _ => fun
  | [d1, d2, d3] => { results := [.lit (.bool true)], args := [d1, d2, d3] }
  | _ => none }
def metricsFitsRow : OpenClaim := { program := "ytkmgogabbefonaadoor", sum := "45b207b69716d8b5f68fb86ce076b3827459dcf98556582b85639e1ba4bc5aeb", func := "obelus/obeluslaw44.MetricsFits", spec := "metricsFits", inPlace := ["internal/bytealg.IndexByteString", "internal/bytealg.IndexString"], unfollowed := true, recurses := true, named := ["unicode/utf8.first", "unicode/utf8.acceptRanges", "internal/bytealg.MaxLen"], apart := false, laid := [("unicode/utf8.acceptRanges", laid_unicode_utf8_acceptRanges), ("unicode/utf8.first", laid_unicode_utf8_first)] }
def MetricsFitsSaid : Prop := metricsFitsRow.holds Tryd.pinned (OpenSpec.ofChange metricsFitsSpec)

/-- ITS FALSE NEIGHBOUR: 'it returns false'. Refute it at one input. -/
def metricsFitsWrong : ChangeSpec := { name := "metricsFits", fn := fun _ => fun
  | [d1, d2, d3] => { results := [.lit (.bool false)], args := [d1, d2, d3] }
  | _ => none }
def MetricsFitsWrongFalsely : Prop := metricsFitsRow.holds Tryd.pinned (OpenSpec.ofChange metricsFitsWrong)

/-- 'obeluslaw44.MetricsLines': WHATEVER THE INPUT: true; the input reads as it did. -/
def metricsLinesSpec : ChangeSpec := { name := "metricsLines", fn := fun _ => fun
  | [d] => { results := [.lit (.bool true)], args := [d] }
  | _ => none }
def metricsLinesRow : OpenClaim := { program := "ytkmgogabbefonaadoor", sum := "45b207b69716d8b5f68fb86ce076b3827459dcf98556582b85639e1ba4bc5aeb", func := "obelus/obeluslaw44.MetricsLines", spec := "metricsLines", inPlace := ["internal/bytealg.IndexByteString", "internal/bytealg.IndexString"], unfollowed := true, recurses := true, named := ["unicode/utf8.first", "unicode/utf8.acceptRanges", "internal/bytealg.MaxLen"], apart := false, laid := [("unicode/utf8.acceptRanges", laid_unicode_utf8_acceptRanges), ("unicode/utf8.first", laid_unicode_utf8_first)] }
def MetricsLinesSaid : Prop := metricsLinesRow.holds Tryd.pinned (OpenSpec.ofChange metricsLinesSpec)

/-- ITS FALSE NEIGHBOUR: 'it returns false'. Refute it at one input. -/
def metricsLinesWrong : ChangeSpec := { name := "metricsLines", fn := fun _ => fun
  | [d] => { results := [.lit (.bool false)], args := [d] }
  | _ => none }
def MetricsLinesWrongFalsely : Prop := metricsLinesRow.holds Tryd.pinned (OpenSpec.ofChange metricsLinesWrong)

/-- 'obeluslaw44.MetricsHits': WHATEVER THE INPUT: true; the input reads as it did. -/
def metricsHitsSpec : ChangeSpec := { name := "metricsHits", fn := fun _ => fun
  | [d1, d2, d3] => { results := [.lit (.bool true)], args := [d1, d2, d3] }
  | _ => none }
def metricsHitsRow : OpenClaim := { program := "ytkmgogabbefonaadoor", sum := "45b207b69716d8b5f68fb86ce076b3827459dcf98556582b85639e1ba4bc5aeb", func := "obelus/obeluslaw44.MetricsHits", spec := "metricsHits", inPlace := ["internal/bytealg.IndexByteString", "internal/bytealg.IndexString"], unfollowed := true, recurses := true, named := ["unicode/utf8.first", "unicode/utf8.acceptRanges", "internal/bytealg.MaxLen"], apart := false, laid := [("unicode/utf8.acceptRanges", laid_unicode_utf8_acceptRanges), ("unicode/utf8.first", laid_unicode_utf8_first)] }
def MetricsHitsSaid : Prop := metricsHitsRow.holds Tryd.pinned (OpenSpec.ofChange metricsHitsSpec)

/-- ITS FALSE NEIGHBOUR: 'it returns false'. Refute it at one input. -/
def metricsHitsWrong : ChangeSpec := { name := "metricsHits", fn := fun _ => fun
  | [d1, d2, d3] => { results := [.lit (.bool false)], args := [d1, d2, d3] }
  | _ => none }
def MetricsHitsWrongFalsely : Prop := metricsHitsRow.holds Tryd.pinned (OpenSpec.ofChange metricsHitsWrong)

/-- 'obeluslaw44.MetricsFonts': WHATEVER THE INPUT: true; the input reads as it did. -/
def metricsFontsSpec : ChangeSpec := { name := "metricsFonts", fn := fun _ => fun
  | [d1, d2] => { results := [.lit (.bool true)], args := [d1, d2] }
  | _ => none }
def metricsFontsRow : OpenClaim := { program := "ytkmgogabbefonaadoor", sum := "45b207b69716d8b5f68fb86ce076b3827459dcf98556582b85639e1ba4bc5aeb", func := "obelus/obeluslaw44.MetricsFonts", spec := "metricsFonts", inPlace := ["internal/bytealg.IndexByteString", "internal/bytealg.IndexString"], unfollowed := true, recurses := true, named := ["unicode/utf8.first", "unicode/utf8.acceptRanges", "internal/bytealg.MaxLen"], apart := false, laid := [("unicode/utf8.acceptRanges", laid_unicode_utf8_acceptRanges), ("unicode/utf8.first", laid_unicode_utf8_first)] }
def MetricsFontsSaid : Prop := metricsFontsRow.holds Tryd.pinned (OpenSpec.ofChange metricsFontsSpec)

/-- ITS FALSE NEIGHBOUR: 'it returns false'. Refute it at one input. -/
def metricsFontsWrong : ChangeSpec := { name := "metricsFonts", fn := fun _ => fun
  | [d1, d2] => { results := [.lit (.bool false)], args := [d1, d2] }
  | _ => none }
def MetricsFontsWrongFalsely : Prop := metricsFontsRow.holds Tryd.pinned (OpenSpec.ofChange metricsFontsWrong)

/- THE SECOND FORM. 'bulk': how many values and letters a reading holds, each counted each time it is reached (what is shared counts as often as it is met; a slice's spare places count too). A statement '..UptoSaid' is the law's where the arguments, and the package variables that the reading takes, are together of bulk at most 1048576: NARROWER than '..Said'. Prove '..Said' where nothing that the law and all that it calls make is longer than what came in: it says more and counts as full. Else prove '..UptoSaid'. A law counts once. -/
mutual
def uptoBulk {H : Type} : DataW H → Nat
  | .lit (.string bytes) => bytes.length + 1
  | .lit _ => 1
  | .nil => 1
  | .ptr d => uptoBulk d + 1
  | .slice elems spare => uptoBulkAll elems + uptoBulkAll spare + 1
  | .agg parts => uptoBulkAll parts + 1
  | .iface _ d => uptoBulk d + 1
  | .map entries => uptoBulkEntries entries + 1
  | .held _ => 1
def uptoBulkAll {H : Type} : List (DataW H) → Nat
  | [] => 0
  | d :: r => uptoBulk d + uptoBulkAll r
def uptoBulkEntries {H : Type} : List (Lit × DataW H) → Nat
  | [] => 0
  | x :: r => uptoBulkEntry x + uptoBulkEntries r
def uptoBulkEntry {H : Type} : Lit × DataW H → Nat
  | (.string bytes, d) => bytes.length + uptoBulk d + 1
  | (_, d) => uptoBulk d + 1
 end
def uptoSmall : (H : Type) → List (DataW H) → Bool := fun _ ds => decide (uptoBulkAll ds ≤ 1048576)
def OpenSpec.upto (s : _root_.Go.ChangeSpec) : _root_.Go.OpenSpec := { _root_.Go.OpenSpec.ofChange s with cond := some uptoSmall }

/-- 'obeluslaw44.MetricsWidths', WHERE WHAT IT READS IS OF BULK AT MOST 1048576: true; the input reads as it did. -/
def metricsWidthsUptoRow : OpenClaim := { program := "ytkmgogabbefonaadoor", sum := "45b207b69716d8b5f68fb86ce076b3827459dcf98556582b85639e1ba4bc5aeb", func := "obelus/obeluslaw44.MetricsWidths", spec := "metricsWidths", inPlace := ["internal/bytealg.IndexByteString", "internal/bytealg.IndexString"], unfollowed := true, recurses := true, named := ["unicode/utf8.first", "unicode/utf8.acceptRanges", "internal/bytealg.MaxLen"], apart := false, laid := [("unicode/utf8.acceptRanges", laid_unicode_utf8_acceptRanges), ("unicode/utf8.first", laid_unicode_utf8_first)], narrowed := true }
def MetricsWidthsUptoSaid : Prop := metricsWidthsUptoRow.holds Tryd.pinned (OpenSpec.upto metricsWidthsSpec)

/-- 'obeluslaw44.MetricsOffsets', WHERE WHAT IT READS IS OF BULK AT MOST 1048576: true; the input reads as it did. -/
def metricsOffsetsUptoRow : OpenClaim := { program := "ytkmgogabbefonaadoor", sum := "45b207b69716d8b5f68fb86ce076b3827459dcf98556582b85639e1ba4bc5aeb", func := "obelus/obeluslaw44.MetricsOffsets", spec := "metricsOffsets", inPlace := ["internal/bytealg.IndexByteString", "internal/bytealg.IndexString"], unfollowed := true, recurses := true, named := ["unicode/utf8.first", "unicode/utf8.acceptRanges", "internal/bytealg.MaxLen"], apart := false, laid := [("unicode/utf8.acceptRanges", laid_unicode_utf8_acceptRanges), ("unicode/utf8.first", laid_unicode_utf8_first)], narrowed := true }
def MetricsOffsetsUptoSaid : Prop := metricsOffsetsUptoRow.holds Tryd.pinned (OpenSpec.upto metricsOffsetsSpec)

/-- 'obeluslaw44.MetricsGlue', WHERE WHAT IT READS IS OF BULK AT MOST 1048576: true; the input reads as it did. -/
def metricsGlueUptoRow : OpenClaim := { program := "ytkmgogabbefonaadoor", sum := "45b207b69716d8b5f68fb86ce076b3827459dcf98556582b85639e1ba4bc5aeb", func := "obelus/obeluslaw44.MetricsGlue", spec := "metricsGlue", inPlace := ["internal/bytealg.IndexByteString", "internal/bytealg.IndexString"], unfollowed := true, recurses := true, named := ["unicode/utf8.first", "unicode/utf8.acceptRanges", "internal/bytealg.MaxLen"], apart := false, laid := [("unicode/utf8.acceptRanges", laid_unicode_utf8_acceptRanges), ("unicode/utf8.first", laid_unicode_utf8_first)], narrowed := true }
def MetricsGlueUptoSaid : Prop := metricsGlueUptoRow.holds Tryd.pinned (OpenSpec.upto metricsGlueSpec)

/-- 'obeluslaw44.MetricsKerns', WHERE WHAT IT READS IS OF BULK AT MOST 1048576: true; the input reads as it did. -/
def metricsKernsUptoRow : OpenClaim := { program := "ytkmgogabbefonaadoor", sum := "45b207b69716d8b5f68fb86ce076b3827459dcf98556582b85639e1ba4bc5aeb", func := "obelus/obeluslaw44.MetricsKerns", spec := "metricsKerns", inPlace := ["internal/bytealg.IndexByteString", "internal/bytealg.IndexString"], unfollowed := true, recurses := true, named := ["unicode/utf8.first", "unicode/utf8.acceptRanges", "internal/bytealg.MaxLen"], apart := false, laid := [("unicode/utf8.acceptRanges", laid_unicode_utf8_acceptRanges), ("unicode/utf8.first", laid_unicode_utf8_first)], narrowed := true }
def MetricsKernsUptoSaid : Prop := metricsKernsUptoRow.holds Tryd.pinned (OpenSpec.upto metricsKernsSpec)

/-- 'obeluslaw44.MetricsAdds', WHERE WHAT IT READS IS OF BULK AT MOST 1048576: true; the input reads as it did. -/
def metricsAddsUptoRow : OpenClaim := { program := "ytkmgogabbefonaadoor", sum := "45b207b69716d8b5f68fb86ce076b3827459dcf98556582b85639e1ba4bc5aeb", func := "obelus/obeluslaw44.MetricsAdds", spec := "metricsAdds", inPlace := ["internal/bytealg.IndexByteString", "internal/bytealg.IndexString"], unfollowed := true, recurses := true, named := ["unicode/utf8.first", "unicode/utf8.acceptRanges", "internal/bytealg.MaxLen"], apart := false, laid := [("unicode/utf8.acceptRanges", laid_unicode_utf8_acceptRanges), ("unicode/utf8.first", laid_unicode_utf8_first)], narrowed := true }
def MetricsAddsUptoSaid : Prop := metricsAddsUptoRow.holds Tryd.pinned (OpenSpec.upto metricsAddsSpec)

/-- 'obeluslaw44.MetricsFits', WHERE WHAT IT READS IS OF BULK AT MOST 1048576: true; the input reads as it did. -/
def metricsFitsUptoRow : OpenClaim := { program := "ytkmgogabbefonaadoor", sum := "45b207b69716d8b5f68fb86ce076b3827459dcf98556582b85639e1ba4bc5aeb", func := "obelus/obeluslaw44.MetricsFits", spec := "metricsFits", inPlace := ["internal/bytealg.IndexByteString", "internal/bytealg.IndexString"], unfollowed := true, recurses := true, named := ["unicode/utf8.first", "unicode/utf8.acceptRanges", "internal/bytealg.MaxLen"], apart := false, laid := [("unicode/utf8.acceptRanges", laid_unicode_utf8_acceptRanges), ("unicode/utf8.first", laid_unicode_utf8_first)], narrowed := true }
def MetricsFitsUptoSaid : Prop := metricsFitsUptoRow.holds Tryd.pinned (OpenSpec.upto metricsFitsSpec)

/-- 'obeluslaw44.MetricsLines', WHERE WHAT IT READS IS OF BULK AT MOST 1048576: true; the input reads as it did. -/
def metricsLinesUptoRow : OpenClaim := { program := "ytkmgogabbefonaadoor", sum := "45b207b69716d8b5f68fb86ce076b3827459dcf98556582b85639e1ba4bc5aeb", func := "obelus/obeluslaw44.MetricsLines", spec := "metricsLines", inPlace := ["internal/bytealg.IndexByteString", "internal/bytealg.IndexString"], unfollowed := true, recurses := true, named := ["unicode/utf8.first", "unicode/utf8.acceptRanges", "internal/bytealg.MaxLen"], apart := false, laid := [("unicode/utf8.acceptRanges", laid_unicode_utf8_acceptRanges), ("unicode/utf8.first", laid_unicode_utf8_first)], narrowed := true }
def MetricsLinesUptoSaid : Prop := metricsLinesUptoRow.holds Tryd.pinned (OpenSpec.upto metricsLinesSpec)

/-- 'obeluslaw44.MetricsHits', WHERE WHAT IT READS IS OF BULK AT MOST 1048576: true; the input reads as it did. -/
def metricsHitsUptoRow : OpenClaim := { program := "ytkmgogabbefonaadoor", sum := "45b207b69716d8b5f68fb86ce076b3827459dcf98556582b85639e1ba4bc5aeb", func := "obelus/obeluslaw44.MetricsHits", spec := "metricsHits", inPlace := ["internal/bytealg.IndexByteString", "internal/bytealg.IndexString"], unfollowed := true, recurses := true, named := ["unicode/utf8.first", "unicode/utf8.acceptRanges", "internal/bytealg.MaxLen"], apart := false, laid := [("unicode/utf8.acceptRanges", laid_unicode_utf8_acceptRanges), ("unicode/utf8.first", laid_unicode_utf8_first)], narrowed := true }
def MetricsHitsUptoSaid : Prop := metricsHitsUptoRow.holds Tryd.pinned (OpenSpec.upto metricsHitsSpec)

/-- 'obeluslaw44.MetricsFonts', WHERE WHAT IT READS IS OF BULK AT MOST 1048576: true; the input reads as it did. -/
def metricsFontsUptoRow : OpenClaim := { program := "ytkmgogabbefonaadoor", sum := "45b207b69716d8b5f68fb86ce076b3827459dcf98556582b85639e1ba4bc5aeb", func := "obelus/obeluslaw44.MetricsFonts", spec := "metricsFonts", inPlace := ["internal/bytealg.IndexByteString", "internal/bytealg.IndexString"], unfollowed := true, recurses := true, named := ["unicode/utf8.first", "unicode/utf8.acceptRanges", "internal/bytealg.MaxLen"], apart := false, laid := [("unicode/utf8.acceptRanges", laid_unicode_utf8_acceptRanges), ("unicode/utf8.first", laid_unicode_utf8_first)], narrowed := true }
def MetricsFontsUptoSaid : Prop := metricsFontsUptoRow.holds Tryd.pinned (OpenSpec.upto metricsFontsSpec)

end Rows
end Go.Proofs.YtkmgogabbefonaaDoor
