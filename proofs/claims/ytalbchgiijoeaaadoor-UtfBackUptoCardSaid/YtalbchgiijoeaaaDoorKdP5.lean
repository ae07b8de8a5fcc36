-- Slimmed by slim.py from the text of this name without 'Kd'.
import Derived.Test.YtalbchgiijoeaaaDoorKdP4
import Derived.Test.YtalbchgiijoeaaaDoorKdG0
import Derived.Test.YtalbchgiijoeaaaDoorKdG2
import Derived.Test.YtalbchgiijoeaaaDoorKdG3
import Derived.Test.YtalbchgiijoeaaaDoorKdG6
import Derived.Test.YtalbchgiijoeaaaDoorKdG15
namespace Go.Proofs.YtalbchgiijoeaaaDoor
open Go.RowKit Go.Lib Go.Proofs.YtalbchgiijoeaaaDoor.G
open Go.Proofs.YtalbchgiijoeaaaDoorW.PrintWords
set_option linter.unusedVariables false
set_option linter.unusedSimpArgs false
theorem nums_size (l : List Int) : (strOfNums l).size = l.length := by rw [size_eq]; simp [strOfNums]
end Go.Proofs.YtalbchgiijoeaaaDoor

