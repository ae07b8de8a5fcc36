-- PRINTED by print.py (a twelfth state) out of the translation. Not trusted: Lean checks it.
import Derived.Test.YtejjdokicecojaaDoorC8
import Derived.Test.YtejjdokicecojaaDoorG0
namespace Go.Proofs.YtejjdokicecojaaDoor.G
open Go.RowKit Go.Proofs.YtejjdokicecojaaDoorW.PrintWords Go.Proofs.YtejjdokicecojaaDoorW.PrintLast Go.Proofs.YtejjdokicecojaaDoorW.PrintMore
attribute [local go_sem] max2_int min2_int max_two min_two max_three min_three max_four min_four   -- for this text's walks alone
set_option linter.unusedVariables false
set_option linter.unusedSimpArgs false


/-! ### respellref03_Names: function 11 -/
def respellref03_Names.f : Option (List ByteArray) := some (namesTo 24)
theorem respellref03_Names.calls (r : List ByteArray) (w : World) (h : respellref03_Names.f = some r) :
    Calls Tryd.prog 11 #[] w fun e w' => ∃ v0_ : Value, e = .returned (v0_) ∧ Kd.R Kd.string 9 w' w.heap.size (fun _ => True) v0_ r ∧ Below w.heap.size w w' := refNames_calls r w h

end Go.Proofs.YtejjdokicecojaaDoor.G
