/-
  DERIVED. GIVEN WITH THE SEED: THE PROGRAM's TIES (one call each: nine closed facts by the kernel) AND EACH ROW's TIE, after the 31st guide's Derived/Test/Toyas{Tie, Card}.lean. No idea stands in it: it is a product of the set-up. Laid BY PROGRAM, IN A SANDBOX (cutbox-door.mjs). By AI agents, Wed Nov 11 2026. No macro, syntax, notation, axiom, sorry.
-/
import Derived.Test.YtejjdokicecojaaDoorRows
import Derived.LaidByTextLater
import Derived.SevenTiedAt
import Derived.LaidSub
import Derived.LaidOnce
namespace Go.Proofs.YtejjdokicecojaaDoor
open Go
set_option maxRecDepth 100000
theorem seatTie1 : Tryd.prog.laidByTextLater [("respell/class.names", Rows.laid_respell_class_names), ("respell/class.counts", Rows.laid_respell_class_counts), ("respell/class.ranges", Rows.laid_respell_class_ranges), ("respell/class.partners", Rows.laid_respell_class_partners)] [.data, .widerDeep, .widerDeep, .data] true :=
  Program.laidByTextLater_by_one 103 8 135 (by kernel_rfl) (by kernel_rfl) (by kernel_rfl) (by kernel_rfl) (by kernel_rfl) (by kernel_rfl) (fun _ _ => by kernel_rfl)
theorem noOwnUnsafe : Tryd.pinned.checked.prog.headLifts.contains "ownunsafe" = false := by kernel_rfl
theorem tie : Tryd.prog.laidByTextLater [("respell/class.names", Rows.laid_respell_class_names), ("respell/class.counts", Rows.laid_respell_class_counts), ("respell/class.ranges", Rows.laid_respell_class_ranges), ("respell/class.partners", Rows.laid_respell_class_partners)] [.data, .widerDeep, .widerDeep, .data] true :=
  Program.laidByTextLater.sub seatTie1 ["respell/class.names", "respell/class.counts", "respell/class.ranges", "respell/class.partners"] (by kernel_rfl) (by kernel_rfl)
theorem classOf_row_tie : Rows.classOfRow.laidByTextAt .later Tryd.pinned [.data, .widerDeep, .widerDeep, .data] true :=
  OpenClaim.laidByTextAt_later rfl rfl tie noOwnUnsafe
theorem classNames_row_tie : Rows.classNamesRow.laidByTextAt .later Tryd.pinned [.data, .widerDeep, .widerDeep, .data] true :=
  OpenClaim.laidByTextAt_later rfl rfl tie noOwnUnsafe
theorem classPartners_row_tie : Rows.classPartnersRow.laidByTextAt .later Tryd.pinned [.data, .widerDeep, .widerDeep, .data] true :=
  OpenClaim.laidByTextAt_later rfl rfl tie noOwnUnsafe
theorem classPairs_row_tie : Rows.classPairsRow.laidByTextAt .later Tryd.pinned [.data, .widerDeep, .widerDeep, .data] true :=
  OpenClaim.laidByTextAt_later rfl rfl tie noOwnUnsafe
theorem classOfUpto_row_tie : Rows.classOfUptoRow.laidByTextAt .later Tryd.pinned [.data, .widerDeep, .widerDeep, .data] true :=
  OpenClaim.laidByTextAt_later rfl rfl tie noOwnUnsafe
theorem classNamesUpto_row_tie : Rows.classNamesUptoRow.laidByTextAt .later Tryd.pinned [.data, .widerDeep, .widerDeep, .data] true :=
  OpenClaim.laidByTextAt_later rfl rfl tie noOwnUnsafe
theorem classPartnersUpto_row_tie : Rows.classPartnersUptoRow.laidByTextAt .later Tryd.pinned [.data, .widerDeep, .widerDeep, .data] true :=
  OpenClaim.laidByTextAt_later rfl rfl tie noOwnUnsafe
theorem classPairsUpto_row_tie : Rows.classPairsUptoRow.laidByTextAt .later Tryd.pinned [.data, .widerDeep, .widerDeep, .data] true :=
  OpenClaim.laidByTextAt_later rfl rfl tie noOwnUnsafe
end Go.Proofs.YtejjdokicecojaaDoor
