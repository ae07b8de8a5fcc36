-- Slimmed by slim.py from the text of this name without 'Kf'.
import Derived.Test.YtalbchgiijoeaaaDoorKfG0
import Derived.Test.YtalbchgiijoeaaaDoorBegun
set_option linter.unusedVariables false
set_option linter.unusedSimpArgs false
namespace Go.Proofs.YtalbchgiijoeaaaDoor
open Go.RowKit Go.Proofs.YtalbchgiijoeaaaDoor.G Go.Proofs.YtalbchgiijoeaaaDoorW.PrintWords Go.Proofs.YtalbchgiijoeaaaDoorW.PrintLast Go.Proofs.YtalbchgiijoeaaaDoorW.PrintMore
set_option maxHeartbeats 4000000 in
set_option maxRecDepth 100000 in
theorem begun_lo (s : ByteArray) (w : World) (c0 : Int) (hs : 0 < s.size) (hx0 : ∀ h : 0 < s.size, ((s[0]'h).toNat : Int) = c0) (h1 : c0 ≤ 193) :
    Calls Tryd.prog 42 #[.string s] w fun e w' => e = .returned (.tuple #[.int .i64 0, .int .i64 0]) ∧ Below w.heap.size w w' := by
  have t2a : decide (194 ≤ c0) = false := by simp; omega
  have t3a : decide (224 ≤ c0) = false := by simp; omega
  have t4a : decide (240 ≤ c0) = false := by simp; omega
  have q0 := eq_true (show (0:Int) < s.size by omega)
  have v0 := eq_true (show 0 < s.size by omega)
  have z1 : decide (0 ≤ (s.size : Int)) = true := by simp
  clear hs
  go_enter Tryd.func42, Tryd.ntmps42
  go_wp2
  go_ret2
  exact ⟨rfl, Below.refl _ _⟩
set_option maxHeartbeats 4000000 in
set_option maxRecDepth 100000 in
theorem begun_hi (s : ByteArray) (w : World) (c0 : Int) (hs : 0 < s.size) (hx0 : ∀ h : 0 < s.size, ((s[0]'h).toNat : Int) = c0) (h1 : 245 ≤ c0) :
    Calls Tryd.prog 42 #[.string s] w fun e w' => e = .returned (.tuple #[.int .i64 0, .int .i64 0]) ∧ Below w.heap.size w w' := by
  have t2a : decide (194 ≤ c0) = true := by simp; omega
  have t2b : decide (c0 ≤ 223) = false := by simp; omega
  have t3a : decide (224 ≤ c0) = true := by simp; omega
  have t3b : decide (c0 ≤ 239) = false := by simp; omega
  have t4a : decide (240 ≤ c0) = true := by simp; omega
  have t4b : decide (c0 ≤ 244) = false := by simp; omega
  have q0 := eq_true (show (0:Int) < s.size by omega)
  have v0 := eq_true (show 0 < s.size by omega)
  have z1 : decide (0 ≤ (s.size : Int)) = true := by simp
  clear hs
  go_enter Tryd.func42, Tryd.ntmps42
  go_wp2
  go_ret2
  exact ⟨rfl, Below.refl _ _⟩
set_option maxHeartbeats 4000000 in
set_option maxRecDepth 100000 in
theorem begun_w2 (s : ByteArray) (w : World) (c0 : Int) (hs : 0 < s.size) (hx0 : ∀ h : 0 < s.size, ((s[0]'h).toNat : Int) = c0) (h1 : 194 ≤ c0) (h2 : c0 ≤ 223) (hn : 2 ≤ s.size) :
    Calls Tryd.prog 42 #[.string s] w fun e w' => e = .returned (.tuple #[.int .i64 0, .int .i64 0]) ∧ Below w.heap.size w w' := by
  have t2a : decide (194 ≤ c0) = true := by simp; omega
  have t2b : decide (c0 ≤ 223) = true := by simp; omega
  have t3a : decide (224 ≤ c0) = false := by simp; omega
  have t4a : decide (240 ≤ c0) = false := by simp; omega
  have q0 := eq_true (show (0:Int) < s.size by omega)
  have v0 := eq_true (show 0 < s.size by omega)
  have z1 : decide (2 ≤ (s.size : Int)) = true := by simp; omega
  clear hs hn
  go_enter Tryd.func42, Tryd.ntmps42
  go_wp2
  go_ret2
  exact ⟨rfl, Below.refl _ _⟩
set_option maxHeartbeats 4000000 in
set_option maxRecDepth 100000 in
theorem begun_w3 (s : ByteArray) (w : World) (c0 : Int) (hs : 0 < s.size) (hx0 : ∀ h : 0 < s.size, ((s[0]'h).toNat : Int) = c0) (h1 : 224 ≤ c0) (h2 : c0 ≤ 239) (hn : 3 ≤ s.size) :
    Calls Tryd.prog 42 #[.string s] w fun e w' => e = .returned (.tuple #[.int .i64 0, .int .i64 0]) ∧ Below w.heap.size w w' := by
  have t2a : decide (194 ≤ c0) = true := by simp; omega
  have t2b : decide (c0 ≤ 223) = false := by simp; omega
  have t3a : decide (224 ≤ c0) = true := by simp; omega
  have t3b : decide (c0 ≤ 239) = true := by simp; omega
  have t4a : decide (240 ≤ c0) = false := by simp; omega
  have q0 := eq_true (show (0:Int) < s.size by omega)
  have v0 := eq_true (show 0 < s.size by omega)
  have z1 : decide (3 ≤ (s.size : Int)) = true := by simp; omega
  clear hs hn
  go_enter Tryd.func42, Tryd.ntmps42
  go_wp2
  go_ret2
  exact ⟨rfl, Below.refl _ _⟩
set_option maxHeartbeats 4000000 in
set_option maxRecDepth 100000 in
theorem begun_w4 (s : ByteArray) (w : World) (c0 : Int) (hs : 0 < s.size) (hx0 : ∀ h : 0 < s.size, ((s[0]'h).toNat : Int) = c0) (h1 : 240 ≤ c0) (h2 : c0 ≤ 244) (hn : 4 ≤ s.size) :
    Calls Tryd.prog 42 #[.string s] w fun e w' => e = .returned (.tuple #[.int .i64 0, .int .i64 0]) ∧ Below w.heap.size w w' := by
  have t2a : decide (194 ≤ c0) = true := by simp; omega
  have t2b : decide (c0 ≤ 223) = false := by simp; omega
  have t3a : decide (224 ≤ c0) = true := by simp; omega
  have t3b : decide (c0 ≤ 239) = false := by simp; omega
  have t4a : decide (240 ≤ c0) = true := by simp; omega
  have t4b : decide (c0 ≤ 244) = true := by simp; omega
  have q0 := eq_true (show (0:Int) < s.size by omega)
  have v0 := eq_true (show 0 < s.size by omega)
  have z1 : decide (4 ≤ (s.size : Int)) = true := by simp; omega
  clear hs hn
  go_enter Tryd.func42, Tryd.ntmps42
  go_wp2
  go_ret2
  exact ⟨rfl, Below.refl _ _⟩
end Go.Proofs.YtalbchgiijoeaaaDoor

