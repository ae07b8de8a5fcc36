-- Slimmed by slim.py from the text of this name without 'Kh'.
import Derived.Test.YtalbchgiijoeaaaDoorKhTabs
import Derived.Test.YtalbchgiijoeaaaDoorKhG0
namespace Go.Proofs.YtalbchgiijoeaaaDoor.G
open Go.RowKit Go.Proofs.YtalbchgiijoeaaaDoorW.PrintWords Go.Proofs.YtalbchgiijoeaaaDoorW.PrintLast Go.Proofs.YtalbchgiijoeaaaDoorW.PrintMore
attribute [local go_sem] max2_int min2_int max_two min_two max_three min_three max_four min_four
set_option linter.unusedVariables false
set_option linter.unusedSimpArgs false
def utf8_DecodeRuneInString.f (a0 : ByteArray) : Option (Int × Int) := some (((Lib.decodeGo a0).1 : Int), ((Lib.decodeGo a0).2 : Int))
theorem utf8_DecodeRuneInString.calls (a0 : ByteArray) (r1 r2 : Int) (w : World) (HT : Aside0 (Tabs w)) (h : utf8_DecodeRuneInString.f a0 = some (r1, r2)) :
    Calls Tryd.prog 41 #[.string a0] w fun e w' => e = .returned (.tuple #[.int .i32 r1, .int .i64 r2]) ∧ Below w.heap.size w w' := by
  have h' := Option.some.inj h
  have e1 := congrArg Prod.fst h'
  have e2 := congrArg Prod.snd h'
  simp only at e1 e2
  subst e1 e2
  exact Tryd.utf8_DecodeRuneInString a0 w HT.out.out
end Go.Proofs.YtalbchgiijoeaaaDoor.G

