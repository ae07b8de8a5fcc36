/-
  NARROWER THAN 'FOR EVERY INPUT', by the rows' own cells (each row's printed sentence says how): UtfUnits: laid · UtfBorders: laid · UtfRange: laid · UtfOpens: laid · UtfNumbers: laid · UtfTells: laid · UtfPieces: laid · UtfJoins: laid · UtfBack: laid.
  DERIVED. THE GIVEN ROWS OF THIS SEAT. 9 by the template 'for every input the law returns true; each argument reads behind the call as it read before'; 0 by the template 'total and deterministic' (their statements: YtalbchgiijoeaaaDoorTotals.lean).
  GIVEN WITH THE SEED: the statements are not yours to turn. If you find one false, say at which input.
  Laid BY PROGRAM, IN A SANDBOX (cutbox-rows.mjs): the forced cells as the released guide's own fill.sh prints them over the translation 9f6fc2ed498a4e56… (all of the seat's roots in one cut). By AI agents, Wed Nov 11 2026. No macro, syntax, notation, axiom, sorry.
-/
import Derived.Test.YtalbchgiijoeaaaDoorChecked
import GoSem.PinnedTables
import GoSem.Claim
import GoSem.ClaimJoined
import GoSem.ClaimMapViews
import Derived.JoinedTies
import Derived.KernelRfl
namespace Go.Proofs.YtalbchgiijoeaaaDoor
/- THE CELL 'sum', in the pinned program and in every row, IS THE sha256 OF THE DUMP (.gsa) THAT YtalbchgiijoeaaaDoorProg.lean LOADS. Nothing in Lean hashes anything: it is a label: what it is worth is what the hold of that sum in a sandbox is worth. -/
noncomputable def Tryd.pinned : Pinned := { name := "ytalbchgiijoeaaadoor", sum := "9f6fc2ed498a4e566988d939b8bec787415cec041b2080e1a4a100d41fd5bdc1", checked := Tryd.checked }
namespace Rows
def none {H : Type} : Left H := { results := [], args := [] }

/- WHAT THE LISTED PACKAGE-LEVEL VARIABLES READ AS WHEN THE CALL BEGINS. Each datum BY PROGRAM (the guide's laid-datum.mjs) off the statement by which the dump's own 'gosem.cut.vars' lays the variable. In a bare row this is a premise. The card (YtalbchgiijoeaaaDoorCards.lean) ties it to the program's text. -/
def laid_unicode_utf8_acceptRanges {H : Type} : DataW H := .agg [.agg [.lit (.int .u8 128), .lit (.int .u8 191)], .agg [.lit (.int .u8 160), .lit (.int .u8 191)], .agg [.lit (.int .u8 128), .lit (.int .u8 159)], .agg [.lit (.int .u8 144), .lit (.int .u8 191)], .agg [.lit (.int .u8 128), .lit (.int .u8 143)], .agg [.lit (.int .u8 0), .lit (.int .u8 0)], .agg [.lit (.int .u8 0), .lit (.int .u8 0)], .agg [.lit (.int .u8 0), .lit (.int .u8 0)], .agg [.lit (.int .u8 0), .lit (.int .u8 0)], .agg [.lit (.int .u8 0), .lit (.int .u8 0)], .agg [.lit (.int .u8 0), .lit (.int .u8 0)], .agg [.lit (.int .u8 0), .lit (.int .u8 0)], .agg [.lit (.int .u8 0), .lit (.int .u8 0)], .agg [.lit (.int .u8 0), .lit (.int .u8 0)], .agg [.lit (.int .u8 0), .lit (.int .u8 0)], .agg [.lit (.int .u8 0), .lit (.int .u8 0)]]
/-- One of Go's own tables, pinned by name: the form's constant. -/
def laid_unicode_utf8_first : DataW Unit := Go.Pinned.utf8First

/-- 'respelllaw01.UtfUnits': WHATEVER THE INPUT: true; the input reads as it did. -/
def utfUnitsSpec : ChangeSpec := { name := "utfUnits", fn := fun _ => fun
  | [d] => { results := [.lit (.bool true)], args := [d] }
  | _ => none }
def utfUnitsRow : OpenClaim := { program := "ytalbchgiijoeaaadoor", sum := "9f6fc2ed498a4e566988d939b8bec787415cec041b2080e1a4a100d41fd5bdc1", func := "respell/respelllaw01.UtfUnits", spec := "utfUnits", unfollowed := true, recurses := true, named := ["unicode/utf8.first", "unicode/utf8.acceptRanges"], apart := false, laid := [("unicode/utf8.acceptRanges", laid_unicode_utf8_acceptRanges), ("unicode/utf8.first", laid_unicode_utf8_first)] }
def UtfUnitsSaid : Prop := utfUnitsRow.holds Tryd.pinned (OpenSpec.ofChange utfUnitsSpec)

/-- ITS FALSE NEIGHBOUR: 'it returns false'. Refute it at one input. -/
def utfUnitsWrong : ChangeSpec := { name := "utfUnits", fn := fun _ => fun
  | [d] => { results := [.lit (.bool false)], args := [d] }
  | _ => none }
def UtfUnitsWrongFalsely : Prop := utfUnitsRow.holds Tryd.pinned (OpenSpec.ofChange utfUnitsWrong)

/-- 'respelllaw01.UtfBorders': WHATEVER THE INPUT: true; the input reads as it did. -/
def utfBordersSpec : ChangeSpec := { name := "utfBorders", fn := fun _ => fun
  | [d1, d2] => { results := [.lit (.bool true)], args := [d1, d2] }
  | _ => none }
def utfBordersRow : OpenClaim := { program := "ytalbchgiijoeaaadoor", sum := "9f6fc2ed498a4e566988d939b8bec787415cec041b2080e1a4a100d41fd5bdc1", func := "respell/respelllaw01.UtfBorders", spec := "utfBorders", unfollowed := true, recurses := true, named := ["unicode/utf8.first", "unicode/utf8.acceptRanges"], apart := false, laid := [("unicode/utf8.acceptRanges", laid_unicode_utf8_acceptRanges), ("unicode/utf8.first", laid_unicode_utf8_first)] }
def UtfBordersSaid : Prop := utfBordersRow.holds Tryd.pinned (OpenSpec.ofChange utfBordersSpec)

/-- ITS FALSE NEIGHBOUR: 'it returns false'. Refute it at one input. -/
def utfBordersWrong : ChangeSpec := { name := "utfBorders", fn := fun _ => fun
  | [d1, d2] => { results := [.lit (.bool false)], args := [d1, d2] }
  | _ => none }
def UtfBordersWrongFalsely : Prop := utfBordersRow.holds Tryd.pinned (OpenSpec.ofChange utfBordersWrong)

/-- 'respelllaw01.UtfRange': WHATEVER THE INPUT: true; the input reads as it did. -/
def utfRangeSpec : ChangeSpec := { name := "utfRange", fn := fun _ => fun
  | [d] => { results := [.lit (.bool true)], args := [d] }
  | _ => none }
def utfRangeRow : OpenClaim := { program := "ytalbchgiijoeaaadoor", sum := "9f6fc2ed498a4e566988d939b8bec787415cec041b2080e1a4a100d41fd5bdc1", func := "respell/respelllaw01.UtfRange", spec := "utfRange", unfollowed := true, recurses := true, named := ["unicode/utf8.first", "unicode/utf8.acceptRanges"], apart := false, laid := [("unicode/utf8.acceptRanges", laid_unicode_utf8_acceptRanges), ("unicode/utf8.first", laid_unicode_utf8_first)] }
def UtfRangeSaid : Prop := utfRangeRow.holds Tryd.pinned (OpenSpec.ofChange utfRangeSpec)

/-- ITS FALSE NEIGHBOUR: 'it returns false'. Refute it at one input. -/
def utfRangeWrong : ChangeSpec := { name := "utfRange", fn := fun _ => fun
  | [d] => { results := [.lit (.bool false)], args := [d] }
  | _ => none }
def UtfRangeWrongFalsely : Prop := utfRangeRow.holds Tryd.pinned (OpenSpec.ofChange utfRangeWrong)

/-- 'respelllaw01.UtfOpens': WHATEVER THE INPUT: true; the input reads as it did. -/
def utfOpensSpec : ChangeSpec := { name := "utfOpens", fn := fun _ => fun
  | [d1, d2, d3] => { results := [.lit (.bool true)], args := [d1, d2, d3] }
  | _ => none }
def utfOpensRow : OpenClaim := { program := "ytalbchgiijoeaaadoor", sum := "9f6fc2ed498a4e566988d939b8bec787415cec041b2080e1a4a100d41fd5bdc1", func := "respell/respelllaw01.UtfOpens", spec := "utfOpens", unfollowed := true, recurses := true, named := ["unicode/utf8.first", "unicode/utf8.acceptRanges"], apart := false, laid := [("unicode/utf8.acceptRanges", laid_unicode_utf8_acceptRanges), ("unicode/utf8.first", laid_unicode_utf8_first)] }
def UtfOpensSaid : Prop := utfOpensRow.holds Tryd.pinned (OpenSpec.ofChange utfOpensSpec)

/-- ITS FALSE NEIGHBOUR: 'it returns false'. Refute it at one input. -/
def utfOpensWrong : ChangeSpec := { name := "utfOpens", fn := fun _ => fun
  | [d1, d2, d3] => { results := [.lit (.bool false)], args := [d1, d2, d3] }
  | _ => none }
def UtfOpensWrongFalsely : Prop := utfOpensRow.holds Tryd.pinned (OpenSpec.ofChange utfOpensWrong)

/-- 'respelllaw01.UtfNumbers': WHATEVER THE INPUT: true; the input reads as it did. -/
def utfNumbersSpec : ChangeSpec := { name := "utfNumbers", fn := fun _ => fun
  | [] => { results := [.lit (.bool true)], args := [] }
  | _ => none }
def utfNumbersRow : OpenClaim := { program := "ytalbchgiijoeaaadoor", sum := "9f6fc2ed498a4e566988d939b8bec787415cec041b2080e1a4a100d41fd5bdc1", func := "respell/respelllaw01.UtfNumbers", spec := "utfNumbers", unfollowed := true, recurses := true, named := ["unicode/utf8.first", "unicode/utf8.acceptRanges"], apart := false, laid := [("unicode/utf8.acceptRanges", laid_unicode_utf8_acceptRanges), ("unicode/utf8.first", laid_unicode_utf8_first)] }
def UtfNumbersSaid : Prop := utfNumbersRow.holds Tryd.pinned (OpenSpec.ofChange utfNumbersSpec)

/-- ITS FALSE NEIGHBOUR: 'it returns false'. Refute it at one input. -/
def utfNumbersWrong : ChangeSpec := { name := "utfNumbers", fn := fun _ => fun
  | [] => { results := [.lit (.bool false)], args := [] }
  | _ => none }
def UtfNumbersWrongFalsely : Prop := utfNumbersRow.holds Tryd.pinned (OpenSpec.ofChange utfNumbersWrong)

/-- 'respelllaw01.UtfTells': WHATEVER THE INPUT: true; the input reads as it did. -/
def utfTellsSpec : ChangeSpec := { name := "utfTells", fn := fun _ => fun
  | [d1, d2] => { results := [.lit (.bool true)], args := [d1, d2] }
  | _ => none }
def utfTellsRow : OpenClaim := { program := "ytalbchgiijoeaaadoor", sum := "9f6fc2ed498a4e566988d939b8bec787415cec041b2080e1a4a100d41fd5bdc1", func := "respell/respelllaw01.UtfTells", spec := "utfTells", unfollowed := true, recurses := true, named := ["unicode/utf8.first", "unicode/utf8.acceptRanges"], apart := false, laid := [("unicode/utf8.acceptRanges", laid_unicode_utf8_acceptRanges), ("unicode/utf8.first", laid_unicode_utf8_first)] }
def UtfTellsSaid : Prop := utfTellsRow.holds Tryd.pinned (OpenSpec.ofChange utfTellsSpec)

/-- ITS FALSE NEIGHBOUR: 'it returns false'. Refute it at one input. -/
def utfTellsWrong : ChangeSpec := { name := "utfTells", fn := fun _ => fun
  | [d1, d2] => { results := [.lit (.bool false)], args := [d1, d2] }
  | _ => none }
def UtfTellsWrongFalsely : Prop := utfTellsRow.holds Tryd.pinned (OpenSpec.ofChange utfTellsWrong)

/-- 'respelllaw01.UtfPieces': WHATEVER THE INPUT: true; the input reads as it did. -/
def utfPiecesSpec : ChangeSpec := { name := "utfPieces", fn := fun _ => fun
  | [d1, d2] => { results := [.lit (.bool true)], args := [d1, d2] }
  | _ => none }
def utfPiecesRow : OpenClaim := { program := "ytalbchgiijoeaaadoor", sum := "9f6fc2ed498a4e566988d939b8bec787415cec041b2080e1a4a100d41fd5bdc1", func := "respell/respelllaw01.UtfPieces", spec := "utfPieces", unfollowed := true, recurses := true, named := ["unicode/utf8.first", "unicode/utf8.acceptRanges"], apart := false, laid := [("unicode/utf8.acceptRanges", laid_unicode_utf8_acceptRanges), ("unicode/utf8.first", laid_unicode_utf8_first)] }
def UtfPiecesSaid : Prop := utfPiecesRow.holds Tryd.pinned (OpenSpec.ofChange utfPiecesSpec)

/-- ITS FALSE NEIGHBOUR: 'it returns false'. Refute it at one input. -/
def utfPiecesWrong : ChangeSpec := { name := "utfPieces", fn := fun _ => fun
  | [d1, d2] => { results := [.lit (.bool false)], args := [d1, d2] }
  | _ => none }
def UtfPiecesWrongFalsely : Prop := utfPiecesRow.holds Tryd.pinned (OpenSpec.ofChange utfPiecesWrong)

/-- 'respelllaw01.UtfJoins': WHATEVER THE INPUT: true; the input reads as it did. -/
def utfJoinsSpec : ChangeSpec := { name := "utfJoins", fn := fun _ => fun
  | [d] => { results := [.lit (.bool true)], args := [d] }
  | _ => none }
def utfJoinsRow : OpenClaim := { program := "ytalbchgiijoeaaadoor", sum := "9f6fc2ed498a4e566988d939b8bec787415cec041b2080e1a4a100d41fd5bdc1", func := "respell/respelllaw01.UtfJoins", spec := "utfJoins", unfollowed := true, recurses := true, named := ["unicode/utf8.first", "unicode/utf8.acceptRanges"], apart := false, laid := [("unicode/utf8.acceptRanges", laid_unicode_utf8_acceptRanges), ("unicode/utf8.first", laid_unicode_utf8_first)] }
def UtfJoinsSaid : Prop := utfJoinsRow.holds Tryd.pinned (OpenSpec.ofChange utfJoinsSpec)

/-- ITS FALSE NEIGHBOUR: 'it returns false'. Refute it at one input. -/
def utfJoinsWrong : ChangeSpec := { name := "utfJoins", fn := fun _ => fun
  | [d] => { results := [.lit (.bool false)], args := [d] }
  | _ => none }
def UtfJoinsWrongFalsely : Prop := utfJoinsRow.holds Tryd.pinned (OpenSpec.ofChange utfJoinsWrong)

/-- 'respelllaw01.UtfBack': WHATEVER THE INPUT: true; the input reads as it did. -/
def utfBackSpec : ChangeSpec := { name := "utfBack", fn := fun _ => fun
  | [d1, d2] => { results := [.lit (.bool true)], args := [d1, d2] }
  | _ => none }
def utfBackRow : OpenClaim := { program := "ytalbchgiijoeaaadoor", sum := "9f6fc2ed498a4e566988d939b8bec787415cec041b2080e1a4a100d41fd5bdc1", func := "respell/respelllaw01.UtfBack", spec := "utfBack", unfollowed := true, recurses := true, named := ["unicode/utf8.first", "unicode/utf8.acceptRanges"], apart := false, laid := [("unicode/utf8.acceptRanges", laid_unicode_utf8_acceptRanges), ("unicode/utf8.first", laid_unicode_utf8_first)] }
def UtfBackSaid : Prop := utfBackRow.holds Tryd.pinned (OpenSpec.ofChange utfBackSpec)

/-- ITS FALSE NEIGHBOUR: 'it returns false'. Refute it at one input. -/
def utfBackWrong : ChangeSpec := { name := "utfBack", fn := fun _ => fun
  | [d1, d2] => { results := [.lit (.bool false)], args := [d1, d2] }
  | _ => none }
def UtfBackWrongFalsely : Prop := utfBackRow.holds Tryd.pinned (OpenSpec.ofChange utfBackWrong)

/- THE SECOND FORM. 'bulk': how many values and letters a reading holds, each counted each time it is reached (what is shared counts as often as it is met; a slice's spare places count too). A statement '..UptoSaid' is the law's where the arguments, and the package variables that the reading takes, are together of bulk at most 1048576: NARROWER than '..Said'. Prove '..Said' where nothing that the law and all that it calls make is longer than what came in: it says more and counts as full. Else prove '..UptoSaid'. A law counts once. -/
mutual
def uptoBulk {H : Type} : DataW H → Nat
  | .lit (.string bytes) => bytes.length + 1
  | .lit _ => 1
  | .nil => 1
  | .ptr d => uptoBulk d + 1
  | .slice elems spare => uptoBulkAll elems + uptoBulkAll spare + 1
  | .agg parts => uptoBulkAll parts + 1
  | .iface _ d => uptoBulk d + 1
  | .map entries => uptoBulkEntries entries + 1
  | .held _ => 1
def uptoBulkAll {H : Type} : List (DataW H) → Nat
  | [] => 0
  | d :: r => uptoBulk d + uptoBulkAll r
def uptoBulkEntries {H : Type} : List (Lit × DataW H) → Nat
  | [] => 0
  | x :: r => uptoBulkEntry x + uptoBulkEntries r
def uptoBulkEntry {H : Type} : Lit × DataW H → Nat
  | (.string bytes, d) => bytes.length + uptoBulk d + 1
  | (_, d) => uptoBulk d + 1
 end
def uptoSmall : (H : Type) → List (DataW H) → Bool := fun _ ds => decide (uptoBulkAll ds ≤ 1048576)
def OpenSpec.upto (s : _root_.Go.ChangeSpec) : _root_.Go.OpenSpec := { _root_.Go.OpenSpec.ofChange s with cond := some uptoSmall }

/-- 'respelllaw01.UtfUnits', WHERE WHAT IT READS IS OF BULK AT MOST 1048576: true; the input reads as it did. -/
def utfUnitsUptoRow : OpenClaim := { program := "ytalbchgiijoeaaadoor", sum := "9f6fc2ed498a4e566988d939b8bec787415cec041b2080e1a4a100d41fd5bdc1", func := "respell/respelllaw01.UtfUnits", spec := "utfUnits", unfollowed := true, recurses := true, named := ["unicode/utf8.first", "unicode/utf8.acceptRanges"], apart := false, laid := [("unicode/utf8.acceptRanges", laid_unicode_utf8_acceptRanges), ("unicode/utf8.first", laid_unicode_utf8_first)], narrowed := true }
def UtfUnitsUptoSaid : Prop := utfUnitsUptoRow.holds Tryd.pinned (OpenSpec.upto utfUnitsSpec)

/-- 'respelllaw01.UtfBorders', WHERE WHAT IT READS IS OF BULK AT MOST 1048576: true; the input reads as it did. -/
def utfBordersUptoRow : OpenClaim := { program := "ytalbchgiijoeaaadoor", sum := "9f6fc2ed498a4e566988d939b8bec787415cec041b2080e1a4a100d41fd5bdc1", func := "respell/respelllaw01.UtfBorders", spec := "utfBorders", unfollowed := true, recurses := true, named := ["unicode/utf8.first", "unicode/utf8.acceptRanges"], apart := false, laid := [("unicode/utf8.acceptRanges", laid_unicode_utf8_acceptRanges), ("unicode/utf8.first", laid_unicode_utf8_first)], narrowed := true }
def UtfBordersUptoSaid : Prop := utfBordersUptoRow.holds Tryd.pinned (OpenSpec.upto utfBordersSpec)

/-- 'respelllaw01.UtfRange', WHERE WHAT IT READS IS OF BULK AT MOST 1048576: true; the input reads as it did. -/
def utfRangeUptoRow : OpenClaim := { program := "ytalbchgiijoeaaadoor", sum := "9f6fc2ed498a4e566988d939b8bec787415cec041b2080e1a4a100d41fd5bdc1", func := "respell/respelllaw01.UtfRange", spec := "utfRange", unfollowed := true, recurses := true, named := ["unicode/utf8.first", "unicode/utf8.acceptRanges"], apart := false, laid := [("unicode/utf8.acceptRanges", laid_unicode_utf8_acceptRanges), ("unicode/utf8.first", laid_unicode_utf8_first)], narrowed := true }
def UtfRangeUptoSaid : Prop := utfRangeUptoRow.holds Tryd.pinned (OpenSpec.upto utfRangeSpec)

/-- 'respelllaw01.UtfOpens', WHERE WHAT IT READS IS OF BULK AT MOST 1048576: true; the input reads as it did. -/
def utfOpensUptoRow : OpenClaim := { program := "ytalbchgiijoeaaadoor", sum := "9f6fc2ed498a4e566988d939b8bec787415cec041b2080e1a4a100d41fd5bdc1", func := "respell/respelllaw01.UtfOpens", spec := "utfOpens", unfollowed := true, recurses := true, named := ["unicode/utf8.first", "unicode/utf8.acceptRanges"], apart := false, laid := [("unicode/utf8.acceptRanges", laid_unicode_utf8_acceptRanges), ("unicode/utf8.first", laid_unicode_utf8_first)], narrowed := true }
def UtfOpensUptoSaid : Prop := utfOpensUptoRow.holds Tryd.pinned (OpenSpec.upto utfOpensSpec)

/-- 'respelllaw01.UtfNumbers', WHERE WHAT IT READS IS OF BULK AT MOST 1048576: true; the input reads as it did. -/
def utfNumbersUptoRow : OpenClaim := { program := "ytalbchgiijoeaaadoor", sum := "9f6fc2ed498a4e566988d939b8bec787415cec041b2080e1a4a100d41fd5bdc1", func := "respell/respelllaw01.UtfNumbers", spec := "utfNumbers", unfollowed := true, recurses := true, named := ["unicode/utf8.first", "unicode/utf8.acceptRanges"], apart := false, laid := [("unicode/utf8.acceptRanges", laid_unicode_utf8_acceptRanges), ("unicode/utf8.first", laid_unicode_utf8_first)], narrowed := true }
def UtfNumbersUptoSaid : Prop := utfNumbersUptoRow.holds Tryd.pinned (OpenSpec.upto utfNumbersSpec)

/-- 'respelllaw01.UtfTells', WHERE WHAT IT READS IS OF BULK AT MOST 1048576: true; the input reads as it did. -/
def utfTellsUptoRow : OpenClaim := { program := "ytalbchgiijoeaaadoor", sum := "9f6fc2ed498a4e566988d939b8bec787415cec041b2080e1a4a100d41fd5bdc1", func := "respell/respelllaw01.UtfTells", spec := "utfTells", unfollowed := true, recurses := true, named := ["unicode/utf8.first", "unicode/utf8.acceptRanges"], apart := false, laid := [("unicode/utf8.acceptRanges", laid_unicode_utf8_acceptRanges), ("unicode/utf8.first", laid_unicode_utf8_first)], narrowed := true }
def UtfTellsUptoSaid : Prop := utfTellsUptoRow.holds Tryd.pinned (OpenSpec.upto utfTellsSpec)

/-- 'respelllaw01.UtfPieces', WHERE WHAT IT READS IS OF BULK AT MOST 1048576: true; the input reads as it did. -/
def utfPiecesUptoRow : OpenClaim := { program := "ytalbchgiijoeaaadoor", sum := "9f6fc2ed498a4e566988d939b8bec787415cec041b2080e1a4a100d41fd5bdc1", func := "respell/respelllaw01.UtfPieces", spec := "utfPieces", unfollowed := true, recurses := true, named := ["unicode/utf8.first", "unicode/utf8.acceptRanges"], apart := false, laid := [("unicode/utf8.acceptRanges", laid_unicode_utf8_acceptRanges), ("unicode/utf8.first", laid_unicode_utf8_first)], narrowed := true }
def UtfPiecesUptoSaid : Prop := utfPiecesUptoRow.holds Tryd.pinned (OpenSpec.upto utfPiecesSpec)

/-- 'respelllaw01.UtfJoins', WHERE WHAT IT READS IS OF BULK AT MOST 1048576: true; the input reads as it did. -/
def utfJoinsUptoRow : OpenClaim := { program := "ytalbchgiijoeaaadoor", sum := "9f6fc2ed498a4e566988d939b8bec787415cec041b2080e1a4a100d41fd5bdc1", func := "respell/respelllaw01.UtfJoins", spec := "utfJoins", unfollowed := true, recurses := true, named := ["unicode/utf8.first", "unicode/utf8.acceptRanges"], apart := false, laid := [("unicode/utf8.acceptRanges", laid_unicode_utf8_acceptRanges), ("unicode/utf8.first", laid_unicode_utf8_first)], narrowed := true }
def UtfJoinsUptoSaid : Prop := utfJoinsUptoRow.holds Tryd.pinned (OpenSpec.upto utfJoinsSpec)

/-- 'respelllaw01.UtfBack', WHERE WHAT IT READS IS OF BULK AT MOST 1048576: true; the input reads as it did. -/
def utfBackUptoRow : OpenClaim := { program := "ytalbchgiijoeaaadoor", sum := "9f6fc2ed498a4e566988d939b8bec787415cec041b2080e1a4a100d41fd5bdc1", func := "respell/respelllaw01.UtfBack", spec := "utfBack", unfollowed := true, recurses := true, named := ["unicode/utf8.first", "unicode/utf8.acceptRanges"], apart := false, laid := [("unicode/utf8.acceptRanges", laid_unicode_utf8_acceptRanges), ("unicode/utf8.first", laid_unicode_utf8_first)], narrowed := true }
def UtfBackUptoSaid : Prop := utfBackUptoRow.holds Tryd.pinned (OpenSpec.upto utfBackSpec)

end Rows
end Go.Proofs.YtalbchgiijoeaaaDoor
