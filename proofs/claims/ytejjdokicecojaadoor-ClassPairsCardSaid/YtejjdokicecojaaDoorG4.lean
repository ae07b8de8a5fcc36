-- PRINTED by print.py (a twelfth state) out of the translation. Not trusted: Lean checks it.
import Derived.Test.YtejjdokicecojaaDoorC8
import Derived.Test.YtejjdokicecojaaDoorG0
namespace Go.Proofs.YtejjdokicecojaaDoor.G
open Go.RowKit Go.Proofs.YtejjdokicecojaaDoorW.PrintWords Go.Proofs.YtejjdokicecojaaDoorW.PrintLast Go.Proofs.YtejjdokicecojaaDoorW.PrintMore
attribute [local go_sem] max2_int min2_int max_two min_two max_three min_three max_four min_four   -- for this text's walks alone
set_option linter.unusedVariables false
set_option linter.unusedSimpArgs false


/-! ### class_Names: function 12 -/
def class_Names.f : Option (List ByteArray) := some (namesTo 24)
theorem class_Names.calls (r : List ByteArray) (w : World) (HT : Aside0 (Tabs w)) (h : class_Names.f = some r) :
    Calls Tryd.prog 12 #[] w fun e w' => ∃ v0_ : Value, e = .returned (v0_) ∧ Kd.R Kd.string 9 w' w.heap.size (fun _ => True) v0_ r ∧ Below w.heap.size w w' := Names_calls r w HT h

end Go.Proofs.YtejjdokicecojaaDoor.G
