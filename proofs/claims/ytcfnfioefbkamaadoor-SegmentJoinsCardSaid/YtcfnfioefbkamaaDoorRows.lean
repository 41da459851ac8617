/-
  NARROWER THAN 'FOR EVERY INPUT', by the rows' own cells (each row's printed sentence says how): SegmentTokens: laid · SegmentCovers: laid · SegmentBreaks: laid · SegmentJoins: laid · SegmentClasses: laid · SegmentBorders: laid · SegmentTexts: laid · SegmentVisits: laid · SegmentFinds: laid.
  DERIVED. THE GIVEN ROWS OF THIS SEAT. 9 by the template 'for every input the law returns true; each argument reads behind the call as it read before'; 0 by the template 'total and deterministic' (their statements: YtcfnfioefbkamaaDoorTotals.lean).
  GIVEN WITH THE SEED: the statements are not yours to turn. If you find one false, say at which input.
  Laid BY PROGRAM, IN A SANDBOX (cutbox-rows.mjs): the forced cells as the released guide's own fill.sh prints them over the translation 9a607f1e35ef8a17… (all of the seat's roots in one cut). By AI agents, Wed Nov 11 2026. No macro, syntax, notation, axiom, sorry.
-/
import Derived.Test.YtcfnfioefbkamaaDoorChecked
import GoSem.PinnedTables
import GoSem.Claim
import GoSem.ClaimJoined
import GoSem.ClaimMapViews
import Derived.JoinedTies
import Derived.KernelRfl
namespace Go.Proofs.YtcfnfioefbkamaaDoor
/- THE CELL 'sum', in the pinned program and in every row, IS THE sha256 OF THE DUMP (.gsa) THAT YtcfnfioefbkamaaDoorProg.lean LOADS. Nothing in Lean hashes anything: it is a label: what it is worth is what the hold of that sum in a sandbox is worth. -/
noncomputable def Tryd.pinned : Pinned := { name := "ytcfnfioefbkamaadoor", sum := "9a607f1e35ef8a1749f362979c312e09a5cc87a3ffa484115c49811df39fa1a6", checked := Tryd.checked }
namespace Rows
def none {H : Type} : Left H := { results := [], args := [] }

/- WHAT THE LISTED PACKAGE-LEVEL VARIABLES READ AS WHEN THE CALL BEGINS. Each datum BY PROGRAM (the guide's laid-datum.mjs) off the statement by which the dump's own 'gosem.cut.vars' lays the variable. In a bare row this is a premise. The card (YtcfnfioefbkamaaDoorCards.lean) ties it to the program's text. -/
def laid_unicode_utf8_acceptRanges {H : Type} : DataW H := .agg [.agg [.lit (.int .u8 128), .lit (.int .u8 191)], .agg [.lit (.int .u8 160), .lit (.int .u8 191)], .agg [.lit (.int .u8 128), .lit (.int .u8 159)], .agg [.lit (.int .u8 144), .lit (.int .u8 191)], .agg [.lit (.int .u8 128), .lit (.int .u8 143)], .agg [.lit (.int .u8 0), .lit (.int .u8 0)], .agg [.lit (.int .u8 0), .lit (.int .u8 0)], .agg [.lit (.int .u8 0), .lit (.int .u8 0)], .agg [.lit (.int .u8 0), .lit (.int .u8 0)], .agg [.lit (.int .u8 0), .lit (.int .u8 0)], .agg [.lit (.int .u8 0), .lit (.int .u8 0)], .agg [.lit (.int .u8 0), .lit (.int .u8 0)], .agg [.lit (.int .u8 0), .lit (.int .u8 0)], .agg [.lit (.int .u8 0), .lit (.int .u8 0)], .agg [.lit (.int .u8 0), .lit (.int .u8 0)], .agg [.lit (.int .u8 0), .lit (.int .u8 0)]]
/-- One of Go's own tables, pinned by name: the form's constant. -/
def laid_unicode_utf8_first : DataW Unit := Go.Pinned.utf8First

/-- 'obeluslaw03.SegmentTokens': WHATEVER THE INPUT: true; the input reads as it did. -/
def segmentTokensSpec : ChangeSpec := { name := "segmentTokens", fn := fun _ => fun
  | [d] => { results := [.lit (.bool true)], args := [d] }
  | _ => none }
def segmentTokensRow : OpenClaim := { program := "ytcfnfioefbkamaadoor", sum := "9a607f1e35ef8a1749f362979c312e09a5cc87a3ffa484115c49811df39fa1a6", func := "obelus/obeluslaw03.SegmentTokens", spec := "segmentTokens", unfollowed := true, recurses := true, named := ["unicode/utf8.first", "unicode/utf8.acceptRanges"], apart := false, laid := [("unicode/utf8.acceptRanges", laid_unicode_utf8_acceptRanges), ("unicode/utf8.first", laid_unicode_utf8_first)] }
def SegmentTokensSaid : Prop := segmentTokensRow.holds Tryd.pinned (OpenSpec.ofChange segmentTokensSpec)

/-- ITS FALSE NEIGHBOUR: 'it returns false'. Refute it at one input. -/
def segmentTokensWrong : ChangeSpec := { name := "segmentTokens", fn := fun _ => fun
  | [d] => { results := [.lit (.bool false)], args := [d] }
  | _ => none }
def SegmentTokensWrongFalsely : Prop := segmentTokensRow.holds Tryd.pinned (OpenSpec.ofChange segmentTokensWrong)

/-- 'obeluslaw03.SegmentCovers': WHATEVER THE INPUT: true; the input reads as it did. -/
def segmentCoversSpec : ChangeSpec := { name := "segmentCovers", fn := fun _ => fun
  | [d] => { results := [.lit (.bool true)], args := [d] }
  | _ => none }
def segmentCoversRow : OpenClaim := { program := "ytcfnfioefbkamaadoor", sum := "9a607f1e35ef8a1749f362979c312e09a5cc87a3ffa484115c49811df39fa1a6", func := "obelus/obeluslaw03.SegmentCovers", spec := "segmentCovers", unfollowed := true, recurses := true, named := ["unicode/utf8.first", "unicode/utf8.acceptRanges"], apart := false, laid := [("unicode/utf8.acceptRanges", laid_unicode_utf8_acceptRanges), ("unicode/utf8.first", laid_unicode_utf8_first)] }
def SegmentCoversSaid : Prop := segmentCoversRow.holds Tryd.pinned (OpenSpec.ofChange segmentCoversSpec)

/-- ITS FALSE NEIGHBOUR: 'it returns false'. Refute it at one input. -/
def segmentCoversWrong : ChangeSpec := { name := "segmentCovers", fn := fun _ => fun
  | [d] => { results := [.lit (.bool false)], args := [d] }
  | _ => none }
def SegmentCoversWrongFalsely : Prop := segmentCoversRow.holds Tryd.pinned (OpenSpec.ofChange segmentCoversWrong)

/-- 'obeluslaw03.SegmentBreaks': WHATEVER THE INPUT: true; the input reads as it did. -/
def segmentBreaksSpec : ChangeSpec := { name := "segmentBreaks", fn := fun _ => fun
  | [d] => { results := [.lit (.bool true)], args := [d] }
  | _ => none }
def segmentBreaksRow : OpenClaim := { program := "ytcfnfioefbkamaadoor", sum := "9a607f1e35ef8a1749f362979c312e09a5cc87a3ffa484115c49811df39fa1a6", func := "obelus/obeluslaw03.SegmentBreaks", spec := "segmentBreaks", unfollowed := true, recurses := true, named := ["unicode/utf8.first", "unicode/utf8.acceptRanges"], apart := false, laid := [("unicode/utf8.acceptRanges", laid_unicode_utf8_acceptRanges), ("unicode/utf8.first", laid_unicode_utf8_first)] }
def SegmentBreaksSaid : Prop := segmentBreaksRow.holds Tryd.pinned (OpenSpec.ofChange segmentBreaksSpec)

/-- ITS FALSE NEIGHBOUR: 'it returns false'. Refute it at one input. -/
def segmentBreaksWrong : ChangeSpec := { name := "segmentBreaks", fn := fun _ => fun
  | [d] => { results := [.lit (.bool false)], args := [d] }
  | _ => none }
def SegmentBreaksWrongFalsely : Prop := segmentBreaksRow.holds Tryd.pinned (OpenSpec.ofChange segmentBreaksWrong)

/-- 'obeluslaw03.SegmentJoins': WHATEVER THE INPUT: true; the input reads as it did. -/
def segmentJoinsSpec : ChangeSpec := { name := "segmentJoins", fn := fun _ => fun
  | [d1, d2] => { results := [.lit (.bool true)], args := [d1, d2] }
  | _ => none }
def segmentJoinsRow : OpenClaim := { program := "ytcfnfioefbkamaadoor", sum := "9a607f1e35ef8a1749f362979c312e09a5cc87a3ffa484115c49811df39fa1a6", func := "obelus/obeluslaw03.SegmentJoins", spec := "segmentJoins", unfollowed := true, recurses := true, named := ["unicode/utf8.first", "unicode/utf8.acceptRanges"], apart := false, laid := [("unicode/utf8.acceptRanges", laid_unicode_utf8_acceptRanges), ("unicode/utf8.first", laid_unicode_utf8_first)] }
def SegmentJoinsSaid : Prop := segmentJoinsRow.holds Tryd.pinned (OpenSpec.ofChange segmentJoinsSpec)

/-- ITS FALSE NEIGHBOUR: 'it returns false'. Refute it at one input. -/
def segmentJoinsWrong : ChangeSpec := { name := "segmentJoins", fn := fun _ => fun
  | [d1, d2] => { results := [.lit (.bool false)], args := [d1, d2] }
  | _ => none }
def SegmentJoinsWrongFalsely : Prop := segmentJoinsRow.holds Tryd.pinned (OpenSpec.ofChange segmentJoinsWrong)

/-- 'obeluslaw03.SegmentClasses': WHATEVER THE INPUT: true; the input reads as it did. -/
def segmentClassesSpec : ChangeSpec := { name := "segmentClasses", fn := fun _ => fun
  | [d] => { results := [.lit (.bool true)], args := [d] }
  | _ => none }
def segmentClassesRow : OpenClaim := { program := "ytcfnfioefbkamaadoor", sum := "9a607f1e35ef8a1749f362979c312e09a5cc87a3ffa484115c49811df39fa1a6", func := "obelus/obeluslaw03.SegmentClasses", spec := "segmentClasses", unfollowed := true, recurses := true, named := ["unicode/utf8.first", "unicode/utf8.acceptRanges"], apart := false, laid := [("unicode/utf8.acceptRanges", laid_unicode_utf8_acceptRanges), ("unicode/utf8.first", laid_unicode_utf8_first)] }
def SegmentClassesSaid : Prop := segmentClassesRow.holds Tryd.pinned (OpenSpec.ofChange segmentClassesSpec)

/-- ITS FALSE NEIGHBOUR: 'it returns false'. Refute it at one input. -/
def segmentClassesWrong : ChangeSpec := { name := "segmentClasses", fn := fun _ => fun
  | [d] => { results := [.lit (.bool false)], args := [d] }
  | _ => none }
def SegmentClassesWrongFalsely : Prop := segmentClassesRow.holds Tryd.pinned (OpenSpec.ofChange segmentClassesWrong)

/-- 'obeluslaw03.SegmentBorders': WHATEVER THE INPUT: true; the input reads as it did. -/
def segmentBordersSpec : ChangeSpec := { name := "segmentBorders", fn := fun _ => fun
  | [d] => { results := [.lit (.bool true)], args := [d] }
  | _ => none }
def segmentBordersRow : OpenClaim := { program := "ytcfnfioefbkamaadoor", sum := "9a607f1e35ef8a1749f362979c312e09a5cc87a3ffa484115c49811df39fa1a6", func := "obelus/obeluslaw03.SegmentBorders", spec := "segmentBorders", unfollowed := true, recurses := true, named := ["unicode/utf8.first", "unicode/utf8.acceptRanges"], apart := false, laid := [("unicode/utf8.acceptRanges", laid_unicode_utf8_acceptRanges), ("unicode/utf8.first", laid_unicode_utf8_first)] }
def SegmentBordersSaid : Prop := segmentBordersRow.holds Tryd.pinned (OpenSpec.ofChange segmentBordersSpec)

/-- ITS FALSE NEIGHBOUR: 'it returns false'. Refute it at one input. -/
def segmentBordersWrong : ChangeSpec := { name := "segmentBorders", fn := fun _ => fun
  | [d] => { results := [.lit (.bool false)], args := [d] }
  | _ => none }
def SegmentBordersWrongFalsely : Prop := segmentBordersRow.holds Tryd.pinned (OpenSpec.ofChange segmentBordersWrong)

/-- 'obeluslaw03.SegmentTexts': WHATEVER THE INPUT: true; the input reads as it did. -/
def segmentTextsSpec : ChangeSpec := { name := "segmentTexts", fn := fun _ => fun
  | [d] => { results := [.lit (.bool true)], args := [d] }
  | _ => none }
def segmentTextsRow : OpenClaim := { program := "ytcfnfioefbkamaadoor", sum := "9a607f1e35ef8a1749f362979c312e09a5cc87a3ffa484115c49811df39fa1a6", func := "obelus/obeluslaw03.SegmentTexts", spec := "segmentTexts", unfollowed := true, recurses := true, named := ["unicode/utf8.first", "unicode/utf8.acceptRanges"], apart := false, laid := [("unicode/utf8.acceptRanges", laid_unicode_utf8_acceptRanges), ("unicode/utf8.first", laid_unicode_utf8_first)] }
def SegmentTextsSaid : Prop := segmentTextsRow.holds Tryd.pinned (OpenSpec.ofChange segmentTextsSpec)

/-- ITS FALSE NEIGHBOUR: 'it returns false'. Refute it at one input. -/
def segmentTextsWrong : ChangeSpec := { name := "segmentTexts", fn := fun _ => fun
  | [d] => { results := [.lit (.bool false)], args := [d] }
  | _ => none }
def SegmentTextsWrongFalsely : Prop := segmentTextsRow.holds Tryd.pinned (OpenSpec.ofChange segmentTextsWrong)

/-- 'obeluslaw03.SegmentVisits': WHATEVER THE INPUT: true; the input reads as it did. -/
def segmentVisitsSpec : ChangeSpec := { name := "segmentVisits", fn := fun _ => fun
  | [d] => { results := [.lit (.bool true)], args := [d] }
  | _ => none }
def segmentVisitsRow : OpenClaim := { program := "ytcfnfioefbkamaadoor", sum := "9a607f1e35ef8a1749f362979c312e09a5cc87a3ffa484115c49811df39fa1a6", func := "obelus/obeluslaw03.SegmentVisits", spec := "segmentVisits", unfollowed := true, recurses := true, named := ["unicode/utf8.first", "unicode/utf8.acceptRanges"], apart := false, laid := [("unicode/utf8.acceptRanges", laid_unicode_utf8_acceptRanges), ("unicode/utf8.first", laid_unicode_utf8_first)] }
def SegmentVisitsSaid : Prop := segmentVisitsRow.holds Tryd.pinned (OpenSpec.ofChange segmentVisitsSpec)

/-- ITS FALSE NEIGHBOUR: 'it returns false'. Refute it at one input. -/
def segmentVisitsWrong : ChangeSpec := { name := "segmentVisits", fn := fun _ => fun
  | [d] => { results := [.lit (.bool false)], args := [d] }
  | _ => none }
def SegmentVisitsWrongFalsely : Prop := segmentVisitsRow.holds Tryd.pinned (OpenSpec.ofChange segmentVisitsWrong)

/-- 'obeluslaw03.SegmentFinds': WHATEVER THE INPUT: true; the input reads as it did. -/
def segmentFindsSpec : ChangeSpec := { name := "segmentFinds", fn := fun _ => fun
  | [d1, d2] => { results := [.lit (.bool true)], args := [d1, d2] }
  | _ => none }
def segmentFindsRow : OpenClaim := { program := "ytcfnfioefbkamaadoor", sum := "9a607f1e35ef8a1749f362979c312e09a5cc87a3ffa484115c49811df39fa1a6", func := "obelus/obeluslaw03.SegmentFinds", spec := "segmentFinds", unfollowed := true, recurses := true, named := ["unicode/utf8.first", "unicode/utf8.acceptRanges"], apart := false, laid := [("unicode/utf8.acceptRanges", laid_unicode_utf8_acceptRanges), ("unicode/utf8.first", laid_unicode_utf8_first)] }
def SegmentFindsSaid : Prop := segmentFindsRow.holds Tryd.pinned (OpenSpec.ofChange segmentFindsSpec)

/-- ITS FALSE NEIGHBOUR: 'it returns false'. Refute it at one input. -/
def segmentFindsWrong : ChangeSpec := { name := "segmentFinds", fn := fun _ => fun
  | [d1, d2] => { results := [.lit (.bool false)], args := [d1, d2] }
  | _ => none }
def SegmentFindsWrongFalsely : Prop := segmentFindsRow.holds Tryd.pinned (OpenSpec.ofChange segmentFindsWrong)

/- THE SECOND FORM. 'bulk': how many values and letters a reading holds, each counted each time it is reached (what is shared counts as often as it is met; a slice's spare places count too). A statement '..UptoSaid' is the law's where the arguments, and the package variables that the reading takes, are together of bulk at most 1048576: NARROWER than '..Said'. Prove '..Said' where nothing that the law and all that it calls make is longer than what came in: it says more and counts as full. Else prove '..UptoSaid'. A law counts once. -/
mutual
def uptoBulk {H : Type} : DataW H → Nat
  | .lit (.string bytes) => bytes.length + 1
  | .lit _ => 1
  | .nil => 1
  | .ptr d => uptoBulk d + 1
  | .slice elems spare => uptoBulkAll elems + uptoBulkAll spare + 1
  | .agg parts => uptoBulkAll parts + 1
  | .iface _ d => uptoBulk d + 1
  | .map entries => uptoBulkEntries entries + 1
  | .held _ => 1
def uptoBulkAll {H : Type} : List (DataW H) → Nat
  | [] => 0
  | d :: r => uptoBulk d + uptoBulkAll r
def uptoBulkEntries {H : Type} : List (Lit × DataW H) → Nat
  | [] => 0
  | x :: r => uptoBulkEntry x + uptoBulkEntries r
def uptoBulkEntry {H : Type} : Lit × DataW H → Nat
  | (.string bytes, d) => bytes.length + uptoBulk d + 1
  | (_, d) => uptoBulk d + 1
 end
def uptoSmall : (H : Type) → List (DataW H) → Bool := fun _ ds => decide (uptoBulkAll ds ≤ 1048576)
def OpenSpec.upto (s : _root_.Go.ChangeSpec) : _root_.Go.OpenSpec := { _root_.Go.OpenSpec.ofChange s with cond := some uptoSmall }

/-- 'obeluslaw03.SegmentTokens', WHERE WHAT IT READS IS OF BULK AT MOST 1048576: true; the input reads as it did. -/
def segmentTokensUptoRow : OpenClaim := { program := "ytcfnfioefbkamaadoor", sum := "9a607f1e35ef8a1749f362979c312e09a5cc87a3ffa484115c49811df39fa1a6", func := "obelus/obeluslaw03.SegmentTokens", spec := "segmentTokens", unfollowed := true, recurses := true, named := ["unicode/utf8.first", "unicode/utf8.acceptRanges"], apart := false, laid := [("unicode/utf8.acceptRanges", laid_unicode_utf8_acceptRanges), ("unicode/utf8.first", laid_unicode_utf8_first)], narrowed := true }
def SegmentTokensUptoSaid : Prop := segmentTokensUptoRow.holds Tryd.pinned (OpenSpec.upto segmentTokensSpec)

/-- 'obeluslaw03.SegmentCovers', WHERE WHAT IT READS IS OF BULK AT MOST 1048576: true; the input reads as it did. -/
def segmentCoversUptoRow : OpenClaim := { program := "ytcfnfioefbkamaadoor", sum := "9a607f1e35ef8a1749f362979c312e09a5cc87a3ffa484115c49811df39fa1a6", func := "obelus/obeluslaw03.SegmentCovers", spec := "segmentCovers", unfollowed := true, recurses := true, named := ["unicode/utf8.first", "unicode/utf8.acceptRanges"], apart := false, laid := [("unicode/utf8.acceptRanges", laid_unicode_utf8_acceptRanges), ("unicode/utf8.first", laid_unicode_utf8_first)], narrowed := true }
def SegmentCoversUptoSaid : Prop := segmentCoversUptoRow.holds Tryd.pinned (OpenSpec.upto segmentCoversSpec)

/-- 'obeluslaw03.SegmentBreaks', WHERE WHAT IT READS IS OF BULK AT MOST 1048576: true; the input reads as it did. -/
def segmentBreaksUptoRow : OpenClaim := { program := "ytcfnfioefbkamaadoor", sum := "9a607f1e35ef8a1749f362979c312e09a5cc87a3ffa484115c49811df39fa1a6", func := "obelus/obeluslaw03.SegmentBreaks", spec := "segmentBreaks", unfollowed := true, recurses := true, named := ["unicode/utf8.first", "unicode/utf8.acceptRanges"], apart := false, laid := [("unicode/utf8.acceptRanges", laid_unicode_utf8_acceptRanges), ("unicode/utf8.first", laid_unicode_utf8_first)], narrowed := true }
def SegmentBreaksUptoSaid : Prop := segmentBreaksUptoRow.holds Tryd.pinned (OpenSpec.upto segmentBreaksSpec)

/-- 'obeluslaw03.SegmentJoins', WHERE WHAT IT READS IS OF BULK AT MOST 1048576: true; the input reads as it did. -/
def segmentJoinsUptoRow : OpenClaim := { program := "ytcfnfioefbkamaadoor", sum := "9a607f1e35ef8a1749f362979c312e09a5cc87a3ffa484115c49811df39fa1a6", func := "obelus/obeluslaw03.SegmentJoins", spec := "segmentJoins", unfollowed := true, recurses := true, named := ["unicode/utf8.first", "unicode/utf8.acceptRanges"], apart := false, laid := [("unicode/utf8.acceptRanges", laid_unicode_utf8_acceptRanges), ("unicode/utf8.first", laid_unicode_utf8_first)], narrowed := true }
def SegmentJoinsUptoSaid : Prop := segmentJoinsUptoRow.holds Tryd.pinned (OpenSpec.upto segmentJoinsSpec)

/-- 'obeluslaw03.SegmentClasses', WHERE WHAT IT READS IS OF BULK AT MOST 1048576: true; the input reads as it did. -/
def segmentClassesUptoRow : OpenClaim := { program := "ytcfnfioefbkamaadoor", sum := "9a607f1e35ef8a1749f362979c312e09a5cc87a3ffa484115c49811df39fa1a6", func := "obelus/obeluslaw03.SegmentClasses", spec := "segmentClasses", unfollowed := true, recurses := true, named := ["unicode/utf8.first", "unicode/utf8.acceptRanges"], apart := false, laid := [("unicode/utf8.acceptRanges", laid_unicode_utf8_acceptRanges), ("unicode/utf8.first", laid_unicode_utf8_first)], narrowed := true }
def SegmentClassesUptoSaid : Prop := segmentClassesUptoRow.holds Tryd.pinned (OpenSpec.upto segmentClassesSpec)

/-- 'obeluslaw03.SegmentBorders', WHERE WHAT IT READS IS OF BULK AT MOST 1048576: true; the input reads as it did. -/
def segmentBordersUptoRow : OpenClaim := { program := "ytcfnfioefbkamaadoor", sum := "9a607f1e35ef8a1749f362979c312e09a5cc87a3ffa484115c49811df39fa1a6", func := "obelus/obeluslaw03.SegmentBorders", spec := "segmentBorders", unfollowed := true, recurses := true, named := ["unicode/utf8.first", "unicode/utf8.acceptRanges"], apart := false, laid := [("unicode/utf8.acceptRanges", laid_unicode_utf8_acceptRanges), ("unicode/utf8.first", laid_unicode_utf8_first)], narrowed := true }
def SegmentBordersUptoSaid : Prop := segmentBordersUptoRow.holds Tryd.pinned (OpenSpec.upto segmentBordersSpec)

/-- 'obeluslaw03.SegmentTexts', WHERE WHAT IT READS IS OF BULK AT MOST 1048576: true; the input reads as it did. -/
def segmentTextsUptoRow : OpenClaim := { program := "ytcfnfioefbkamaadoor", sum := "9a607f1e35ef8a1749f362979c312e09a5cc87a3ffa484115c49811df39fa1a6", func := "obelus/obeluslaw03.SegmentTexts", spec := "segmentTexts", unfollowed := true, recurses := true, named := ["unicode/utf8.first", "unicode/utf8.acceptRanges"], apart := false, laid := [("unicode/utf8.acceptRanges", laid_unicode_utf8_acceptRanges), ("unicode/utf8.first", laid_unicode_utf8_first)], narrowed := true }
def SegmentTextsUptoSaid : Prop := segmentTextsUptoRow.holds Tryd.pinned (OpenSpec.upto segmentTextsSpec)

/-- 'obeluslaw03.SegmentVisits', WHERE WHAT IT READS IS OF BULK AT MOST 1048576: true; the input reads as it did. -/
def segmentVisitsUptoRow : OpenClaim := { program := "ytcfnfioefbkamaadoor", sum := "9a607f1e35ef8a1749f362979c312e09a5cc87a3ffa484115c49811df39fa1a6", func := "obelus/obeluslaw03.SegmentVisits", spec := "segmentVisits", unfollowed := true, recurses := true, named := ["unicode/utf8.first", "unicode/utf8.acceptRanges"], apart := false, laid := [("unicode/utf8.acceptRanges", laid_unicode_utf8_acceptRanges), ("unicode/utf8.first", laid_unicode_utf8_first)], narrowed := true }
def SegmentVisitsUptoSaid : Prop := segmentVisitsUptoRow.holds Tryd.pinned (OpenSpec.upto segmentVisitsSpec)

/-- 'obeluslaw03.SegmentFinds', WHERE WHAT IT READS IS OF BULK AT MOST 1048576: true; the input reads as it did. -/
def segmentFindsUptoRow : OpenClaim := { program := "ytcfnfioefbkamaadoor", sum := "9a607f1e35ef8a1749f362979c312e09a5cc87a3ffa484115c49811df39fa1a6", func := "obelus/obeluslaw03.SegmentFinds", spec := "segmentFinds", unfollowed := true, recurses := true, named := ["unicode/utf8.first", "unicode/utf8.acceptRanges"], apart := false, laid := [("unicode/utf8.acceptRanges", laid_unicode_utf8_acceptRanges), ("unicode/utf8.first", laid_unicode_utf8_first)], narrowed := true }
def SegmentFindsUptoSaid : Prop := segmentFindsUptoRow.holds Tryd.pinned (OpenSpec.upto segmentFindsSpec)

end Rows
end Go.Proofs.YtcfnfioefbkamaaDoor
