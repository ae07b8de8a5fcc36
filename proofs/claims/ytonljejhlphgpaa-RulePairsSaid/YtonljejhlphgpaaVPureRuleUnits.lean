-- Slimmed by slim.py from the text of this name without 'V'.
import Derived.Test.YtonljejhlphgpaaVPR1
import Derived.Test.YtonljejhlphgpaaVG0
import Derived.Test.YtonljejhlphgpaaVG6
import Derived.Test.YtonljejhlphgpaaVG9
import Derived.Test.YtonljejhlphgpaaVG11
import Derived.Test.YtonljejhlphgpaaVG15
import Derived.Test.YtonljejhlphgpaaVG16
set_option linter.unusedVariables false
set_option linter.unusedSimpArgs false
namespace Go.Proofs.Ytonljejhlphgpaa
open Go.RowKit Go.Proofs.Ytonljejhlphgpaa.G Go.Proofs.YtonljejhlphgpaaW.PrintWords
theorem shown07 (k : Nat) (hk : 60 ≤ k) : respelllaw07_shown.f k = some true := by
  have h : respelllaw07_shown.f 60 = some true := by kernel_rfl
  have := leo_up (f := fun k => respelllaw07_shown.f k) respelllaw07_shown.mono h (k - 60)
  simpa [show 60 + (k - 60) = k by omega] using this
end Go.Proofs.Ytonljejhlphgpaa

