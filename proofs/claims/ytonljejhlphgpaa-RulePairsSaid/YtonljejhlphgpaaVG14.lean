-- Slimmed by slim.py from the text of this name without 'V'.
import Derived.Test.YtonljejhlphgpaaVS3
import Derived.Test.YtonljejhlphgpaaVG0
import Derived.Test.YtonljejhlphgpaaVG7
namespace Go.Proofs.Ytonljejhlphgpaa.G
open Go.RowKit Go.Proofs.YtonljejhlphgpaaW.PrintWords Go.Proofs.YtonljejhlphgpaaW.PrintLast Go.Proofs.YtonljejhlphgpaaW.PrintMore
set_option linter.unusedVariables false
set_option linter.unusedSimpArgs false
def set_Nth.f (l0 : List S68) (a1 : Int) : Option (Int × Bool) := some (nthF l0 a1)
theorem set_Nth.calls (A0 : Option Addr) (c0 : Nat) (l0 : List S68) (a1 : Int) (r1 : Int) (r2 : Bool) (w : World) (hr0 : Kd.C k68 w A0 l0.length l0) (hc0 : l0.length ≤ c0) (h : set_Nth.f l0 a1 = some (r1, r2)) :
    Calls Try.prog 53 #[.slice A0 l0.length c0, .int .i64 a1] w fun e w' => e = .returned (.tuple #[.int .i64 r1, .bool r2]) ∧ Below w.heap.size w w' := by
  have h' := Option.some.inj h
  have e1 : (nthF l0 a1).1 = r1 := by rw [h']
  have e2 : (nthF l0 a1).2 = r2 := by rw [h']
  have := Nth_calls0 set_Valid_C A0 c0 l0 a1 w hr0 hc0
  rw [e1, e2] at this
  exact this
end Go.Proofs.Ytonljejhlphgpaa.G

