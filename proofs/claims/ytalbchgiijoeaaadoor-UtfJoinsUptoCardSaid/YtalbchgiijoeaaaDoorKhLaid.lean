-- Slimmed by slim.py from the text of this name without 'Kh'.
import Derived.Test.YtalbchgiijoeaaaDoorKhTabs
import Derived.Test.YtalbchgiijoeaaaDoorCards
import Derived.Test.YtalbchgiijoeaaaDoorTie
import Derived.Lib.LaidU8
import Derived.SevenTiedAt
import Derived.ProofKit
import Derived.ShutString
import Derived.ChangeOld
import Derived.LaidMore
import Derived.LaidHandle
import Derived.OpenShut
import Derived.Stop.Joined
namespace Go.Proofs.YtalbchgiijoeaaaDoor
open Go.RowKit Go.Lib
def laid2 : List (String × DataW Unit) := [("unicode/utf8.acceptRanges", Rows.laid_unicode_utf8_acceptRanges), ("unicode/utf8.first", Rows.laid_unicode_utf8_first)]
theorem u8extra : U8Extra Tryd.prog Tryd.lays260_ren := { n3 := by kernel_rfl, n4 := by kernel_rfl, y3 := by kernel_rfl, y4 := by kernel_rfl, c5 := by kernel_rfl, c119 := by kernel_rfl, c138 := by kernel_rfl }
theorem tabs_of_laid {W : World} (h : laidMetH Tryd.prog laid2 W) : Tabs W := by
  rw [MakeChecks.laidMetH_plain _ _ _ (by kernel_rfl)] at h
  have h3 : VarReads Tryd.prog W "unicode/utf8.first" firstData := by
    rw [show firstData = Rows.laid_unicode_utf8_first by kernel_rfl]
    exact laidMet.reads h (.tail _ (.head _))
  have h4 : VarReads Tryd.prog W "unicode/utf8.acceptRanges" acceptData := by
    rw [show acceptData = Rows.laid_unicode_utf8_acceptRanges by kernel_rfl]
    exact laidMet.reads h (.head _)
  exact ⟨utf8Tabs_of_reads Tryd.lays260 u8extra h3 h4⟩
noncomputable def laidWorld (os : Os) : World :=
  { World.doorLaid Tryd.prog 19 os with heap := (World.doorLaid Tryd.prog 19 os).heap.modify 0 fun
    | .cells _ t frozen => .cells (Lib.firstTab.map fun z => Value.int .u8 z).toArray t frozen
    | o => o }
theorem laid_met (os : Os) (args : Array Value) : laidMet Tryd.prog laid2 ((laidWorld os).forCall (fun _ _ => 0) ⟨#[], args, []⟩).memory := laidMet_of_run' 8 (by kernel_rfl) (by kernel_rfl)
theorem own : ownKnob Tryd.prog.godebug = none := by kernel_rfl
end Go.Proofs.YtalbchgiijoeaaaDoor

