-- Slimmed by slim.py from the text of this name without 'Kf'.
import Derived.Test.YtalbchgiijoeaaaDoorKfR1
import Derived.RowKit3
import Derived.Maps.AppendAt
set_option linter.unusedVariables false
set_option linter.unusedSimpArgs false
namespace Go.Proofs.YtalbchgiijoeaaaDoor
open Go.RowKit Go.Shelf Go.Proofs.YtalbchgiijoeaaaDoor.G Go.Proofs.YtalbchgiijoeaaaDoorW.PrintWords
attribute [local go_sem] Oper.semAt_some
theorem all_in (n : Nat) (s : ByteArray) (w : World) :
    CallsIn Fence.wide n Tryd.prog 22 #[.string s] w fun e w' => e = .returned (.func (.func 43) #[] #[.pointer (some ⟨w.heap.size, 0, none⟩)]) ∧ w' = w.alloc (.cells #[.string s] 9) := by
  refine callsIn_of_wp Tryd.func22 rfl trivial ?_ rfl
  simp only [Tryd.ntmps22, List.size_toArray, List.length_cons, List.length_nil, Nat.reduceAdd, Nat.reduceSub, Array.replicate_succ, Array.replicate_zero, List.push_toArray, List.append_toArray, List.nil_append, List.cons_append]
  gi_wp2
  go_ret
  exact ⟨rfl, rfl⟩
def encU (x : Nat × Nat) : Array Value := #[.int .i64 (x.1 : Int), .int .i64 (x.2 : Int)]
theorem all_stops (n : Nat) (hn : 1 ≤ n) (Bs : Nat) (w0 : World) (HT : Tabs w0) (s : ByteArray) (hs : s.size ≤ 9223372036854775807) (w : World) (hw0 : Below w0.heap.size w0 w) (hb : w.cell? ⟨Bs, 0, none⟩ = some (.string s)) :
    SeqStopsK Fence.wide n Tryd.prog 43 #[.pointer (some ⟨Bs, 0, none⟩)] encU (KpU w0.heap.size Bs) (fun ys => ys = units s) (fun pre => pre <+: units s) s.size w := fun l J Jx W hW hJ _ hY h0 =>
  all1_in n hn l Bs w0 HT s hs J Jx W (hw0.trans (hW.mono hw0.size)) hJ hY ((hW.cell (p := ⟨Bs, 0, none⟩) (World.block_lt_of_cell? w _ hb)).trans hb) h0
end Go.Proofs.YtalbchgiijoeaaaDoor

