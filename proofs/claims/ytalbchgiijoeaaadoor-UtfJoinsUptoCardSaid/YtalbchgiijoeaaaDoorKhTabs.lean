-- Slimmed by slim.py from the text of this name without 'Kh'.
import Derived.Test.YtalbchgiijoeaaaDoorKhShelf
import Derived.Below
import Derived.RowKit
namespace Go.Proofs.YtalbchgiijoeaaaDoor
open Go.RowKit
structure Tabs (w : World) : Prop where
  out : Lib.Utf8Tabs 0 1 w
theorem Tabs.below {w w' : World} (h : Tabs w) (hb : Below w.heap.size w w') : Tabs w' := ⟨Utf8Tabs_below h.out hb⟩
end Go.Proofs.YtalbchgiijoeaaaDoor

