-- Slimmed by slim.py from the text of this name without 'Ke'.
import Derived.Test.YtalbchgiijoeaaaDoorKeP1
import Derived.Lib.RuneCountTail
import Derived.Laws.BytesArg
import Derived.Test.YtalbchgiijoeaaaDoorKeWWords
namespace Go.Proofs.YtalbchgiijoeaaaDoor
open Go.Lib
open Go.Proofs.YtalbchgiijoeaaaDoorW.PrintWords
set_option linter.unusedVariables false
theorem size_list (s : ByteArray) : s.data.toList.length = s.size := (size_eq s).symm
theorem bt_bN {s : ByteArray} {i : Nat} (h : i < s.size) : bt s (i : Int) = bN s i := by
  unfold bt bN
  rw [dif_pos (by simpa using h)]
  rw [← getD_get!', List.getD_eq_getElem?_getD, List.getElem?_eq_getElem (by rw [size_list]; exact h)]
  rfl
theorem bN_tail (s : ByteArray) (n j : Nat) : bN (s.extract n s.size) j = bN s (n + j) := by unfold bN; rw [tail_get!]
theorem dec_tail (s : ByteArray) (n j : Nat) : Utf8.decode (s.extract n s.size) j = Utf8.decode s (n + j) := tail_decode s n j
end Go.Proofs.YtalbchgiijoeaaaDoor

