/-
  DERIVED. GIVEN WITH THE SEED: THE CARDS: each row of YtalbchgiijoeaaaDoorRows.lean that lists a variable, with what it lists TIED to the program's text (the seventh form; the later family's looks); each row that meets fmt, with fmt's text TOLD by the authors' own Lean function (tested against real Go, not proved from fmt's source: count such statements apart). THE CARD IS WHAT COUNTS. Prove the row's statement (the work); the ties are given (YtalbchgiijoeaaaDoorTie.lean); close each card by the builder's one call (the guide's Derived/Test/ToyasCard.lean, 'card_holds'). Laid BY PROGRAM, IN A SANDBOX (cutbox-door.mjs). By AI agents, Wed Nov 11 2026. No macro, syntax, notation, axiom, sorry.
-/
import Derived.Test.YtalbchgiijoeaaaDoorRows
import GoSem.ClaimSeven
namespace Go.Proofs.YtalbchgiijoeaaaDoor
namespace Rows

/-- THE TIED CARD OF 'respelllaw01.UtfUnits'. -/
def utfUnitsCard : Claim7 := { stood := { row := utfUnitsRow, standIns := [], harness := (true, "7bf61fc9fcc4a4d5903ea5d3fe3f0f5c23f965eac84ffec5ef42106197b4ee7b"), looks := false }, kinds := [], alts := [], laidByText := true, laidKinds := [.data, .pinned], laidTests := true, laidLooks := .later }
def UtfUnitsCardSaid : Prop := Claim7.holds Tryd.pinned (.plain (OpenSpec.ofChange utfUnitsSpec)) utfUnitsCard

/-- THE TIED CARD OF 'respelllaw01.UtfBorders'. -/
def utfBordersCard : Claim7 := { stood := { row := utfBordersRow, standIns := [], harness := (true, "7bf61fc9fcc4a4d5903ea5d3fe3f0f5c23f965eac84ffec5ef42106197b4ee7b"), looks := false }, kinds := [], alts := [], laidByText := true, laidKinds := [.data, .pinned], laidTests := true, laidLooks := .later }
def UtfBordersCardSaid : Prop := Claim7.holds Tryd.pinned (.plain (OpenSpec.ofChange utfBordersSpec)) utfBordersCard

/-- THE TIED CARD OF 'respelllaw01.UtfRange'. -/
def utfRangeCard : Claim7 := { stood := { row := utfRangeRow, standIns := [], harness := (true, "7bf61fc9fcc4a4d5903ea5d3fe3f0f5c23f965eac84ffec5ef42106197b4ee7b"), looks := false }, kinds := [], alts := [], laidByText := true, laidKinds := [.data, .pinned], laidTests := true, laidLooks := .later }
def UtfRangeCardSaid : Prop := Claim7.holds Tryd.pinned (.plain (OpenSpec.ofChange utfRangeSpec)) utfRangeCard

/-- THE TIED CARD OF 'respelllaw01.UtfOpens'. -/
def utfOpensCard : Claim7 := { stood := { row := utfOpensRow, standIns := [], harness := (true, "7bf61fc9fcc4a4d5903ea5d3fe3f0f5c23f965eac84ffec5ef42106197b4ee7b"), looks := false }, kinds := [], alts := [], laidByText := true, laidKinds := [.data, .pinned], laidTests := true, laidLooks := .later }
def UtfOpensCardSaid : Prop := Claim7.holds Tryd.pinned (.plain (OpenSpec.ofChange utfOpensSpec)) utfOpensCard

/-- THE TIED CARD OF 'respelllaw01.UtfNumbers'. -/
def utfNumbersCard : Claim7 := { stood := { row := utfNumbersRow, standIns := [], harness := (true, "7bf61fc9fcc4a4d5903ea5d3fe3f0f5c23f965eac84ffec5ef42106197b4ee7b"), looks := false }, kinds := [], alts := [], laidByText := true, laidKinds := [.data, .pinned], laidTests := true, laidLooks := .later }
def UtfNumbersCardSaid : Prop := Claim7.holds Tryd.pinned (.plain (OpenSpec.ofChange utfNumbersSpec)) utfNumbersCard

/-- THE TIED CARD OF 'respelllaw01.UtfTells'. -/
def utfTellsCard : Claim7 := { stood := { row := utfTellsRow, standIns := [], harness := (true, "7bf61fc9fcc4a4d5903ea5d3fe3f0f5c23f965eac84ffec5ef42106197b4ee7b"), looks := false }, kinds := [], alts := [], laidByText := true, laidKinds := [.data, .pinned], laidTests := true, laidLooks := .later }
def UtfTellsCardSaid : Prop := Claim7.holds Tryd.pinned (.plain (OpenSpec.ofChange utfTellsSpec)) utfTellsCard

/-- THE TIED CARD OF 'respelllaw01.UtfPieces'. -/
def utfPiecesCard : Claim7 := { stood := { row := utfPiecesRow, standIns := [], harness := (true, "7bf61fc9fcc4a4d5903ea5d3fe3f0f5c23f965eac84ffec5ef42106197b4ee7b"), looks := false }, kinds := [], alts := [], laidByText := true, laidKinds := [.data, .pinned], laidTests := true, laidLooks := .later }
def UtfPiecesCardSaid : Prop := Claim7.holds Tryd.pinned (.plain (OpenSpec.ofChange utfPiecesSpec)) utfPiecesCard

/-- THE TIED CARD OF 'respelllaw01.UtfJoins'. -/
def utfJoinsCard : Claim7 := { stood := { row := utfJoinsRow, standIns := [], harness := (true, "7bf61fc9fcc4a4d5903ea5d3fe3f0f5c23f965eac84ffec5ef42106197b4ee7b"), looks := false }, kinds := [], alts := [], laidByText := true, laidKinds := [.data, .pinned], laidTests := true, laidLooks := .later }
def UtfJoinsCardSaid : Prop := Claim7.holds Tryd.pinned (.plain (OpenSpec.ofChange utfJoinsSpec)) utfJoinsCard

/-- THE TIED CARD OF 'respelllaw01.UtfBack'. -/
def utfBackCard : Claim7 := { stood := { row := utfBackRow, standIns := [], harness := (true, "7bf61fc9fcc4a4d5903ea5d3fe3f0f5c23f965eac84ffec5ef42106197b4ee7b"), looks := false }, kinds := [], alts := [], laidByText := true, laidKinds := [.data, .pinned], laidTests := true, laidLooks := .later }
def UtfBackCardSaid : Prop := Claim7.holds Tryd.pinned (.plain (OpenSpec.ofChange utfBackSpec)) utfBackCard

/-- THE SECOND FORM's CARD OF 'respelllaw01.UtfUnits'. -/
def utfUnitsUptoCard : Claim7 := { stood := { row := utfUnitsUptoRow, standIns := [], harness := (true, "7bf61fc9fcc4a4d5903ea5d3fe3f0f5c23f965eac84ffec5ef42106197b4ee7b"), looks := false }, kinds := [], alts := [], laidByText := true, laidKinds := [.data, .pinned], laidTests := true, laidLooks := .later }
def UtfUnitsUptoCardSaid : Prop := Claim7.holds Tryd.pinned (.plain (OpenSpec.upto utfUnitsSpec)) utfUnitsUptoCard

/-- THE SECOND FORM's CARD OF 'respelllaw01.UtfBorders'. -/
def utfBordersUptoCard : Claim7 := { stood := { row := utfBordersUptoRow, standIns := [], harness := (true, "7bf61fc9fcc4a4d5903ea5d3fe3f0f5c23f965eac84ffec5ef42106197b4ee7b"), looks := false }, kinds := [], alts := [], laidByText := true, laidKinds := [.data, .pinned], laidTests := true, laidLooks := .later }
def UtfBordersUptoCardSaid : Prop := Claim7.holds Tryd.pinned (.plain (OpenSpec.upto utfBordersSpec)) utfBordersUptoCard

/-- THE SECOND FORM's CARD OF 'respelllaw01.UtfRange'. -/
def utfRangeUptoCard : Claim7 := { stood := { row := utfRangeUptoRow, standIns := [], harness := (true, "7bf61fc9fcc4a4d5903ea5d3fe3f0f5c23f965eac84ffec5ef42106197b4ee7b"), looks := false }, kinds := [], alts := [], laidByText := true, laidKinds := [.data, .pinned], laidTests := true, laidLooks := .later }
def UtfRangeUptoCardSaid : Prop := Claim7.holds Tryd.pinned (.plain (OpenSpec.upto utfRangeSpec)) utfRangeUptoCard

/-- THE SECOND FORM's CARD OF 'respelllaw01.UtfOpens'. -/
def utfOpensUptoCard : Claim7 := { stood := { row := utfOpensUptoRow, standIns := [], harness := (true, "7bf61fc9fcc4a4d5903ea5d3fe3f0f5c23f965eac84ffec5ef42106197b4ee7b"), looks := false }, kinds := [], alts := [], laidByText := true, laidKinds := [.data, .pinned], laidTests := true, laidLooks := .later }
def UtfOpensUptoCardSaid : Prop := Claim7.holds Tryd.pinned (.plain (OpenSpec.upto utfOpensSpec)) utfOpensUptoCard

/-- THE SECOND FORM's CARD OF 'respelllaw01.UtfNumbers'. -/
def utfNumbersUptoCard : Claim7 := { stood := { row := utfNumbersUptoRow, standIns := [], harness := (true, "7bf61fc9fcc4a4d5903ea5d3fe3f0f5c23f965eac84ffec5ef42106197b4ee7b"), looks := false }, kinds := [], alts := [], laidByText := true, laidKinds := [.data, .pinned], laidTests := true, laidLooks := .later }
def UtfNumbersUptoCardSaid : Prop := Claim7.holds Tryd.pinned (.plain (OpenSpec.upto utfNumbersSpec)) utfNumbersUptoCard

/-- THE SECOND FORM's CARD OF 'respelllaw01.UtfTells'. -/
def utfTellsUptoCard : Claim7 := { stood := { row := utfTellsUptoRow, standIns := [], harness := (true, "7bf61fc9fcc4a4d5903ea5d3fe3f0f5c23f965eac84ffec5ef42106197b4ee7b"), looks := false }, kinds := [], alts := [], laidByText := true, laidKinds := [.data, .pinned], laidTests := true, laidLooks := .later }
def UtfTellsUptoCardSaid : Prop := Claim7.holds Tryd.pinned (.plain (OpenSpec.upto utfTellsSpec)) utfTellsUptoCard

/-- THE SECOND FORM's CARD OF 'respelllaw01.UtfPieces'. -/
def utfPiecesUptoCard : Claim7 := { stood := { row := utfPiecesUptoRow, standIns := [], harness := (true, "7bf61fc9fcc4a4d5903ea5d3fe3f0f5c23f965eac84ffec5ef42106197b4ee7b"), looks := false }, kinds := [], alts := [], laidByText := true, laidKinds := [.data, .pinned], laidTests := true, laidLooks := .later }
def UtfPiecesUptoCardSaid : Prop := Claim7.holds Tryd.pinned (.plain (OpenSpec.upto utfPiecesSpec)) utfPiecesUptoCard

/-- THE SECOND FORM's CARD OF 'respelllaw01.UtfJoins'. -/
def utfJoinsUptoCard : Claim7 := { stood := { row := utfJoinsUptoRow, standIns := [], harness := (true, "7bf61fc9fcc4a4d5903ea5d3fe3f0f5c23f965eac84ffec5ef42106197b4ee7b"), looks := false }, kinds := [], alts := [], laidByText := true, laidKinds := [.data, .pinned], laidTests := true, laidLooks := .later }
def UtfJoinsUptoCardSaid : Prop := Claim7.holds Tryd.pinned (.plain (OpenSpec.upto utfJoinsSpec)) utfJoinsUptoCard

/-- THE SECOND FORM's CARD OF 'respelllaw01.UtfBack'. -/
def utfBackUptoCard : Claim7 := { stood := { row := utfBackUptoRow, standIns := [], harness := (true, "7bf61fc9fcc4a4d5903ea5d3fe3f0f5c23f965eac84ffec5ef42106197b4ee7b"), looks := false }, kinds := [], alts := [], laidByText := true, laidKinds := [.data, .pinned], laidTests := true, laidLooks := .later }
def UtfBackUptoCardSaid : Prop := Claim7.holds Tryd.pinned (.plain (OpenSpec.upto utfBackSpec)) utfBackUptoCard
end Rows
end Go.Proofs.YtalbchgiijoeaaaDoor
