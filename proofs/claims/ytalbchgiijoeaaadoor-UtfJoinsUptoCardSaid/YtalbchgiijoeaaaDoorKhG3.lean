-- Slimmed by slim.py from the text of this name without 'Kh'.
import Derived.Laws.BytesArg
import Derived.Test.YtalbchgiijoeaaaDoorKhG0
import Derived.Test.YtalbchgiijoeaaaDoorKhG2
namespace Go.Proofs.YtalbchgiijoeaaaDoor.G
open Go.RowKit Go.Proofs.YtalbchgiijoeaaaDoorW.PrintWords Go.Proofs.YtalbchgiijoeaaaDoorW.PrintLast Go.Proofs.YtalbchgiijoeaaaDoorW.PrintMore
attribute [local go_sem] max2_int min2_int max_two min_two max_three min_three max_four min_four
set_option linter.unusedVariables false
set_option linter.unusedSimpArgs false
def utf_Put.f (k : Nat) (a0 : Int) : Option ByteArray := (utf_Width.f k a0).bind fun t => if t = 0 then some ByteArray.empty else if 1114112 ≤ a0 then some (strOfNums [wrap64 (a0 - 1114112) % 256]) else some (Utf8.encode (wrap32 a0))
theorem utf_Put.mono : ∀ a0 k, LeO (utf_Put.f k a0) (utf_Put.f (k + 1) a0) := by
  intro a0 k
  unfold utf_Put.f
  exact LeO.bind (utf_Width.mono _ _) (fun _ => LeO.refl _)
set_option maxHeartbeats 2000000 in
set_option maxRecDepth 100000 in
theorem utf_Put.calls (k : Nat) (a0 : Int) (r : ByteArray) (w : World) (h : utf_Put.f k a0 = some r) :
    Calls Tryd.prog 13 #[.int .i64 a0] w fun e w' => e = .returned (.string r) ∧ Below w.heap.size w w' := by
  unfold utf_Put.f at h
  obtain ⟨v, hw, h⟩ := Option.bind_eq_some_iff.mp h
  by_cases h0 : v = 0
  · subst h0
    rw [if_pos rfl] at h
    obtain rfl := Option.some.inj h
    go_enter Tryd.func13, Tryd.ntmps13
    go_wp2_with (first | (go_at_call 14; with_reducible refine (utf_Width.calls k a0 0 _ hw).mono ?_; rintro e w' ⟨rfl, ⟨m, rfl⟩⟩))
    go_ret
    exact ⟨rfl, pw_below_drewN (Below.refl _ _) m⟩
  · rw [if_neg h0] at h
    have hvb : (v == 0) = false := by simpa using h0
    by_cases h1 : 1114112 ≤ a0
    · rw [if_pos h1] at h
      obtain rfl := Option.some.inj h
      have hd : decide (1114112 ≤ a0) = true := by simpa using h1
      go_enter Tryd.func13, Tryd.ntmps13
      go_wp2_with (first | (go_at_call 14; with_reducible refine (utf_Width.calls k a0 v _ hw).mono ?_; rintro e w' ⟨rfl, ⟨m, rfl⟩⟩))
      rw [run_convert_bytes_arg ((w.drewN m).alloc (.cells #[Value.int .u8 (wrap64 (a0 - 1114112) % 256)] 5)) 51 5 Tryd.underlying51 Tryd.underlying5 w.heap.size 0 1 1 [wrap64 (a0 - 1114112) % 256] rfl (fun i hi => by
        obtain rfl : i = 0 := by omega
        exact (World.cell?_alloc_mark (w.drewN m) #[Value.int .u8 (wrap64 (a0 - 1114112) % 256)] 5 (0, 0) 0).trans rfl) 9 Tryd.underlying9]
      go_wp2
      go_ret
      exact ⟨rfl, below_alloc (pw_below_drewN (Below.refl _ _) m) _⟩
    · rw [if_neg h1] at h
      obtain rfl := Option.some.inj h
      have hd : decide (1114112 ≤ a0) = false := by simp; omega
      go_enter Tryd.func13, Tryd.ntmps13
      go_wp2_with (first | (go_at_call 14; with_reducible refine (utf_Width.calls k a0 v _ hw).mono ?_; rintro e w' ⟨rfl, ⟨m, rfl⟩⟩))
      go_ret
      exact ⟨rfl, pw_below_drewN (Below.refl _ _) m⟩
end Go.Proofs.YtalbchgiijoeaaaDoor.G

