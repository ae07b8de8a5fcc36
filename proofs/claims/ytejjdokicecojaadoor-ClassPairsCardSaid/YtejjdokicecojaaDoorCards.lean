/-
  DERIVED. GIVEN WITH THE SEED: THE CARDS: each row of YtejjdokicecojaaDoorRows.lean that lists a variable, with what it lists TIED to the program's text (the seventh form; the later family's looks); each row that meets fmt, with fmt's text TOLD by the authors' own Lean function (tested against real Go, not proved from fmt's source: count such statements apart). THE CARD IS WHAT COUNTS. Prove the row's statement (the work); the ties are given (YtejjdokicecojaaDoorTie.lean); close each card by the builder's one call (the guide's Derived/Test/ToyasCard.lean, 'card_holds'). Laid BY PROGRAM, IN A SANDBOX (cutbox-door.mjs). By AI agents, Wed Nov 11 2026. No macro, syntax, notation, axiom, sorry.
-/
import Derived.Test.YtejjdokicecojaaDoorRows
import GoSem.ClaimSeven
namespace Go.Proofs.YtejjdokicecojaaDoor
namespace Rows

/-- THE TIED CARD OF 'respelllaw03.ClassOf'. -/
def classOfCard : Claim7 := { stood := { row := classOfRow, standIns := [], harness := (true, "8c32421b668b22699d4e0b6abe533faa7ee637a8dd0f0f2c8be50f49fb82247f"), looks := false }, kinds := [], alts := [], laidByText := true, laidKinds := [.data, .widerDeep, .widerDeep, .data], laidTests := true, laidLooks := .later }
def ClassOfCardSaid : Prop := Claim7.holds Tryd.pinned (.plain (OpenSpec.ofChange classOfSpec)) classOfCard

/-- THE TIED CARD OF 'respelllaw03.ClassNames'. -/
def classNamesCard : Claim7 := { stood := { row := classNamesRow, standIns := [], harness := (true, "8c32421b668b22699d4e0b6abe533faa7ee637a8dd0f0f2c8be50f49fb82247f"), looks := false }, kinds := [], alts := [], laidByText := true, laidKinds := [.data, .widerDeep, .widerDeep, .data], laidTests := true, laidLooks := .later }
def ClassNamesCardSaid : Prop := Claim7.holds Tryd.pinned (.plain (OpenSpec.ofChange classNamesSpec)) classNamesCard

/-- THE TIED CARD OF 'respelllaw03.ClassPartners'. -/
def classPartnersCard : Claim7 := { stood := { row := classPartnersRow, standIns := [], harness := (true, "8c32421b668b22699d4e0b6abe533faa7ee637a8dd0f0f2c8be50f49fb82247f"), looks := false }, kinds := [], alts := [], laidByText := true, laidKinds := [.data, .widerDeep, .widerDeep, .data], laidTests := true, laidLooks := .later }
def ClassPartnersCardSaid : Prop := Claim7.holds Tryd.pinned (.plain (OpenSpec.ofChange classPartnersSpec)) classPartnersCard

/-- THE TIED CARD OF 'respelllaw03.ClassPairs'. -/
def classPairsCard : Claim7 := { stood := { row := classPairsRow, standIns := [], harness := (true, "8c32421b668b22699d4e0b6abe533faa7ee637a8dd0f0f2c8be50f49fb82247f"), looks := false }, kinds := [], alts := [], laidByText := true, laidKinds := [.data, .widerDeep, .widerDeep, .data], laidTests := true, laidLooks := .later }
def ClassPairsCardSaid : Prop := Claim7.holds Tryd.pinned (.plain (OpenSpec.ofChange classPairsSpec)) classPairsCard

/-- THE SECOND FORM's CARD OF 'respelllaw03.ClassOf'. -/
def classOfUptoCard : Claim7 := { stood := { row := classOfUptoRow, standIns := [], harness := (true, "8c32421b668b22699d4e0b6abe533faa7ee637a8dd0f0f2c8be50f49fb82247f"), looks := false }, kinds := [], alts := [], laidByText := true, laidKinds := [.data, .widerDeep, .widerDeep, .data], laidTests := true, laidLooks := .later }
def ClassOfUptoCardSaid : Prop := Claim7.holds Tryd.pinned (.plain (OpenSpec.upto classOfSpec)) classOfUptoCard

/-- THE SECOND FORM's CARD OF 'respelllaw03.ClassNames'. -/
def classNamesUptoCard : Claim7 := { stood := { row := classNamesUptoRow, standIns := [], harness := (true, "8c32421b668b22699d4e0b6abe533faa7ee637a8dd0f0f2c8be50f49fb82247f"), looks := false }, kinds := [], alts := [], laidByText := true, laidKinds := [.data, .widerDeep, .widerDeep, .data], laidTests := true, laidLooks := .later }
def ClassNamesUptoCardSaid : Prop := Claim7.holds Tryd.pinned (.plain (OpenSpec.upto classNamesSpec)) classNamesUptoCard

/-- THE SECOND FORM's CARD OF 'respelllaw03.ClassPartners'. -/
def classPartnersUptoCard : Claim7 := { stood := { row := classPartnersUptoRow, standIns := [], harness := (true, "8c32421b668b22699d4e0b6abe533faa7ee637a8dd0f0f2c8be50f49fb82247f"), looks := false }, kinds := [], alts := [], laidByText := true, laidKinds := [.data, .widerDeep, .widerDeep, .data], laidTests := true, laidLooks := .later }
def ClassPartnersUptoCardSaid : Prop := Claim7.holds Tryd.pinned (.plain (OpenSpec.upto classPartnersSpec)) classPartnersUptoCard

/-- THE SECOND FORM's CARD OF 'respelllaw03.ClassPairs'. -/
def classPairsUptoCard : Claim7 := { stood := { row := classPairsUptoRow, standIns := [], harness := (true, "8c32421b668b22699d4e0b6abe533faa7ee637a8dd0f0f2c8be50f49fb82247f"), looks := false }, kinds := [], alts := [], laidByText := true, laidKinds := [.data, .widerDeep, .widerDeep, .data], laidTests := true, laidLooks := .later }
def ClassPairsUptoCardSaid : Prop := Claim7.holds Tryd.pinned (.plain (OpenSpec.upto classPairsSpec)) classPairsUptoCard
end Rows
end Go.Proofs.YtejjdokicecojaaDoor
