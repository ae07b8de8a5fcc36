-- Slimmed by slim.py from the text of this name without 'Kh'.
import Derived.Test.YtalbchgiijoeaaaDoorKhRng
import Derived.Test.YtalbchgiijoeaaaDoorKhG0
import Derived.Test.YtalbchgiijoeaaaDoorKhG5
namespace Go.Proofs.YtalbchgiijoeaaaDoor.G
open Go.RowKit Go.Proofs.YtalbchgiijoeaaaDoorW.PrintWords Go.Proofs.YtalbchgiijoeaaaDoorW.PrintLast Go.Proofs.YtalbchgiijoeaaaDoorW.PrintMore
attribute [local go_sem] max2_int min2_int max_two min_two max_three min_three max_four min_four
set_option linter.unusedVariables false
set_option linter.unusedSimpArgs false
def utf_First.f (k : Nat) (a0 : ByteArray) : Option (Int × Int) := if a0.size = 0 then some (0, 0) else utf_unit.f k a0 ((Utf8.decode a0 0).1 : Int)
theorem utf_First.mono : ∀ a0 k, LeO (utf_First.f k a0) (utf_First.f (k + 1) a0) := by
  intro a0 k
  unfold utf_First.f
  exact LeO.ite (LeO.refl _) (utf_unit.mono _ _ _)
set_option maxHeartbeats 2000000 in
set_option maxRecDepth 100000 in
theorem utf_First.calls (k : Nat) (a0 : ByteArray) (r1 r2 : Int) (w : World) (HT : Aside0 (Tabs w)) (h : utf_First.f k a0 = some (r1, r2)) :
    Calls Tryd.prog 17 #[.string a0] w fun e w' => e = .returned (.tuple #[.int .i64 r1, .int .i64 r2]) ∧ Below w.heap.size w w' := by
  unfold utf_First.f at h
  by_cases h0 : a0.size = 0
  · rw [if_pos h0] at h
    have h' := Option.some.inj h
    have e1 := congrArg Prod.fst h'
    have e2 := congrArg Prod.snd h'
    simp only at e1 e2
    subst e1 e2
    go_enter Tryd.func17, Tryd.ntmps17
    go_wp2
    refine wp_loop_once ?_
    go_wp2
    rw [run_next_end w a0 0 0 (by omega)]
    go_wp2
    go_ret2
    exact ⟨rfl, iter_below w a0 0⟩
  · rw [if_neg h0] at h
    go_enter Tryd.func17, Tryd.ntmps17
    go_wp2
    refine wp_loop_once ?_
    go_wp2
    rw [run_next_any w a0 0 0 (by omega)]
    have HT' : ∀ p, Aside0 (Tabs (w.iter a0 p)) := fun p => ⟨HT.out.below (iter_below _ _ _)⟩
    go_wp2_with (first | (go_at_call 40; with_reducible refine (utf_unit.calls k a0 _ r1 r2 _ (HT' _) h).mono ?_; rintro e w' ⟨rfl, hb⟩))
    go_ret2
    exact ⟨rfl, below_step (iter_below _ _ _) hb⟩
end Go.Proofs.YtalbchgiijoeaaaDoor.G

