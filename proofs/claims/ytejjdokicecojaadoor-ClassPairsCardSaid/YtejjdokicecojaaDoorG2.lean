-- PRINTED by print.py (a twelfth state) out of the translation. Not trusted: Lean checks it.
import Derived.Test.YtejjdokicecojaaDoorC8
import Derived.Test.YtejjdokicecojaaDoorG0
namespace Go.Proofs.YtejjdokicecojaaDoor.G
open Go.RowKit Go.Proofs.YtejjdokicecojaaDoorW.PrintWords Go.Proofs.YtejjdokicecojaaDoorW.PrintLast Go.Proofs.YtejjdokicecojaaDoorW.PrintMore
attribute [local go_sem] max2_int min2_int max_two min_two max_three min_three max_four min_four   -- for this text's walks alone
set_option linter.unusedVariables false
set_option linter.unusedSimpArgs false


/-! ### class_Of: function 8 -/
def class_Of.f (a0 : ByteArray) : Option (List S31 × Int) := ofF a0
theorem class_Of.calls (a0 : ByteArray) (r1 : List S31) (r2 : Int) (w : World) (HT : Aside0 (Tabs w)) (h : class_Of.f a0 = some (r1, r2)) :
    Calls Tryd.prog 8 #[.string a0] w fun e w' => ∃ v0_ : Value, e = .returned (.tuple #[v0_, .int .i64 r2]) ∧ Kd.R k31 31 w' w.heap.size (fun _ => True) v0_ r1 ∧ Below w.heap.size w w' := Of_calls a0 r1 r2 w HT h

end Go.Proofs.YtejjdokicecojaaDoor.G
