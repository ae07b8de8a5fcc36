-- Slimmed by slim.py from the text of this name without 'Kh'.
import Derived.Test.YtalbchgiijoeaaaDoorKhU5
import Derived.Test.YtalbchgiijoeaaaDoorKhG0
namespace Go.Proofs.YtalbchgiijoeaaaDoor.G
open Go.RowKit Go.Proofs.YtalbchgiijoeaaaDoorW.PrintWords Go.Proofs.YtalbchgiijoeaaaDoorW.PrintLast Go.Proofs.YtalbchgiijoeaaaDoorW.PrintMore
attribute [local go_sem] max2_int min2_int max_two min_two max_three min_three max_four min_four
set_option linter.unusedVariables false
set_option linter.unusedSimpArgs false
def utf_begun.f (a0 : ByteArray) : Option (Int × Int) := begunF a0
theorem utf_begun.calls (a0 : ByteArray) (r1 r2 : Int) (w : World) (h : utf_begun.f a0 = some (r1, r2)) :
    Calls Tryd.prog 42 #[.string a0] w fun e w' => e = .returned (.tuple #[.int .i64 r1, .int .i64 r2]) ∧ Below w.heap.size w w' := begun_any a0 r1 r2 w h
end Go.Proofs.YtalbchgiijoeaaaDoor.G

