-- Slimmed by slim.py from the text of this name without 'Kh'.
import Derived.Test.YtalbchgiijoeaaaDoorKhR2
import Derived.Test.YtalbchgiijoeaaaDoorKhG0
namespace Go.Proofs.YtalbchgiijoeaaaDoor.G
open Go.RowKit Go.Proofs.YtalbchgiijoeaaaDoorW.PrintWords Go.Proofs.YtalbchgiijoeaaaDoorW.PrintLast Go.Proofs.YtalbchgiijoeaaaDoorW.PrintMore
attribute [local go_sem] max2_int min2_int max_two min_two max_three min_three max_four min_four
set_option linter.unusedVariables false
set_option linter.unusedSimpArgs false
def utf_Cut.f (a0 : ByteArray) : Option (List Int) := if a0.size ≤ 8796093022208 then some (cutF a0) else none
theorem utf_Cut.calls (a0 : ByteArray) (r : List Int) (w : World) (HT : Aside0 (Tabs w)) (h : utf_Cut.f a0 = some r) :
    Calls Tryd.prog 31 #[.string a0] w fun e w' => ∃ v0_ : Value, e = .returned (v0_) ∧ Kd.R (Kd.int .i64) 3 w' w.heap.size (fun _ => True) v0_ r ∧ Below w.heap.size w w' := by
  unfold utf_Cut.f at h
  by_cases h0 : a0.size ≤ 8796093022208
  · rw [if_pos h0] at h
    obtain rfl := Option.some.inj h
    exact Cut_calls0 a0 h0 w HT.out
  · rw [if_neg h0] at h
    cases h
end Go.Proofs.YtalbchgiijoeaaaDoor.G

