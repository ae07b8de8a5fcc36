/- utf.begun by hand: its ways. -/
import Derived.Test.YtalbchgiijoeaaaDoorProg
import Derived.Below
import Derived.Deep.Draws
import Derived.Deep.AppendLies
import Derived.Maps.AppendAt
import Derived.OwnWalk
import Derived.Laws.BytesArg
import Derived.Laws.MakeOwn
import Derived.Laws.OwnMore
import Derived.Deep.OwnRows
import Derived.Tactics
import Derived.Lib.ConvBytes
import Derived.Laws.Slices
import Derived.WalkKit
import Derived.KernelRfl
import Derived.RowKit3
import Derived.Deep.LoopGhost
import Derived.Deep.QuietTactic
import Derived.BigQuiet
import Derived.WideLaws
import Derived.Deep.DeepCutAuto
import Derived.Deep.CutBlock
import Derived.Deep.RegionHeld3
import Derived.Laws.Rows
import Derived.Lib.AppendStr
import Derived.ArgAppend
import Derived.Laws.IdiomCopy
import Derived.OrdersHeld
import Derived.Laws.BitsLemmas
import Derived.RowKit
set_option linter.unusedVariables false
set_option linter.unusedSimpArgs false
namespace Go.Proofs.YtalbchgiijoeaaaDoor
open Go.RowKit
theorem bg_drewN {B : Nat} {w w1 : World} (h : Below B w w1) (m : Nat) : Below B w (w1.drewN m) := by
  induction m with
  | zero => exact h
  | succ m ih => exact Below.drew ih
/-- What utf.begun answers of the range that its bytes tell: no overlong form, no surrogate, no more than the last rune. -/
def begFin (least lo hi : Int) : Int × Int :=
  if (if 55296 ≤ (if lo < least then least else lo) ∧ (if lo < least then least else lo) ≤ 57343 then 57344 else (if lo < least then least else lo)) > (if 55296 ≤ (if hi > 1114111 then 1114111 else hi) ∧ (if hi > 1114111 then 1114111 else hi) ≤ 57343 then 55295 else (if hi > 1114111 then 1114111 else hi)) then (0, 0)
  else ((if 55296 ≤ (if lo < least then least else lo) ∧ (if lo < least then least else lo) ≤ 57343 then 57344 else (if lo < least then least else lo)), (if 55296 ≤ (if hi > 1114111 then 1114111 else hi) ∧ (if hi > 1114111 then 1114111 else hi) ≤ 57343 then 55295 else (if hi > 1114111 then 1114111 else hi)))
theorem ret2_i64 {a b c d : Int} (h : a = c) (h' : b = d) : Ending.returned (.tuple #[.int .i64 a, .int .i64 b]) = .returned (.tuple #[.int .i64 c, .int .i64 d]) := by rw [h, h']
set_option maxHeartbeats 4000000 in
set_option maxRecDepth 100000 in
theorem begun21 (s : ByteArray) (w : World) (c0 a H1 L1 : Int) (hs : s.size = 1) (hx0 : ∀ h : 0 < s.size, ((s[0]'h).toNat : Int) = c0) (h1 : 194 ≤ c0) (h2 : c0 ≤ 223) (e0 : bits .and .i64 c0 31 = a) (l1 : bits .or .i64 (wrap64 (a * 64)) 0 = L1) (r1 : bits .or .i64 (wrap64 (a * 64)) 63 = H1) :
    Calls Tryd.prog 42 #[.string s] w fun e w' => e = .returned (.tuple #[.int .i64 (begFin 128 L1 H1).1, .int .i64 (begFin 128 L1 H1).2]) ∧ Below w.heap.size w w' := by
  have t2a : decide (194 ≤ c0) = true := by simp; omega
  have t2b : decide (c0 ≤ 223) = true := by simp; omega
  have t3a : decide (224 ≤ c0) = false := by simp; omega
  have t3b : decide (c0 ≤ 239) = true := by simp; omega
  have t4a : decide (240 ≤ c0) = false := by simp; omega
  have t4b : decide (c0 ≤ 244) = true := by simp; omega
  have q0 := eq_true (show (0:Int) < s.size by omega)
  have v0 := eq_true (show 0 < s.size by omega)
  have z1 : decide (2 ≤ (s.size : Int)) = false := by simp; omega
  have y1 : decide ((s.size : Int) ≤ 1) = true := by simp; omega
  have x1 : decide (1 < (s.size : Int)) = false := by simp; omega
  have i81 : ∀ w, (Instr.index 62 (.agg #[.int .i64 0, .int .i64 0, .int .i64 128, .int .i64 2048, .int .i64 65536]) (.int .i64 2)).run Tryd.prog w = .ok (.int .i64 128) w := fun _ => by kernel_rfl
  clear hs
  go_enter Tryd.func42, Tryd.ntmps42
  go_wp2
  go_quiet (fail)
  go_wp2
  refine wp_loop_rounds 2 ?_
  rw [rounds_succ]
  go_wp2
  rw [rounds_succ]
  go_wp2
  all_goals
    go_ret2
    refine ⟨ret2_i64 ?_ ?_, bg_drewN (Below.refl _ _) _⟩
    all_goals (unfold begFin; (repeat' split) <;> simp only [] <;> omega)
set_option maxHeartbeats 4000000 in
set_option maxRecDepth 100000 in
theorem begun31 (s : ByteArray) (w : World) (c0 a H1 L1 H2 L2 : Int) (hs : s.size = 1) (hx0 : ∀ h : 0 < s.size, ((s[0]'h).toNat : Int) = c0) (h1 : 224 ≤ c0) (h2 : c0 ≤ 239) (e0 : bits .and .i64 c0 15 = a) (l1 : bits .or .i64 (wrap64 (a * 64)) 0 = L1) (r1 : bits .or .i64 (wrap64 (a * 64)) 63 = H1) (l2 : bits .or .i64 (wrap64 (L1 * 64)) 0 = L2) (r2 : bits .or .i64 (wrap64 (H1 * 64)) 63 = H2) :
    Calls Tryd.prog 42 #[.string s] w fun e w' => e = .returned (.tuple #[.int .i64 (begFin 2048 L2 H2).1, .int .i64 (begFin 2048 L2 H2).2]) ∧ Below w.heap.size w w' := by
  have t2a : decide (194 ≤ c0) = true := by simp; omega
  have t2b : decide (c0 ≤ 223) = false := by simp; omega
  have t3a : decide (224 ≤ c0) = true := by simp; omega
  have t3b : decide (c0 ≤ 239) = true := by simp; omega
  have t4a : decide (240 ≤ c0) = false := by simp; omega
  have t4b : decide (c0 ≤ 244) = true := by simp; omega
  have q0 := eq_true (show (0:Int) < s.size by omega)
  have v0 := eq_true (show 0 < s.size by omega)
  have z1 : decide (3 ≤ (s.size : Int)) = false := by simp; omega
  have y1 : decide ((s.size : Int) ≤ 1) = true := by simp; omega
  have x1 : decide (1 < (s.size : Int)) = false := by simp; omega
  have y2 : decide ((s.size : Int) ≤ 2) = true := by simp; omega
  have x2 : decide (2 < (s.size : Int)) = false := by simp; omega
  have i81 : ∀ w, (Instr.index 62 (.agg #[.int .i64 0, .int .i64 0, .int .i64 128, .int .i64 2048, .int .i64 65536]) (.int .i64 3)).run Tryd.prog w = .ok (.int .i64 2048) w := fun _ => by kernel_rfl
  clear hs
  go_enter Tryd.func42, Tryd.ntmps42
  go_wp2
  go_quiet (fail)
  go_wp2
  refine wp_loop_rounds 3 ?_
  rw [rounds_succ]
  go_wp2
  rw [rounds_succ]
  go_wp2
  rw [rounds_succ]
  go_wp2
  all_goals
    go_ret2
    refine ⟨ret2_i64 ?_ ?_, bg_drewN (Below.refl _ _) _⟩
    all_goals (unfold begFin; (repeat' split) <;> simp only [] <;> omega)
set_option maxHeartbeats 4000000 in
set_option maxRecDepth 100000 in
theorem begun32b1 (s : ByteArray) (w : World) (c0 c1 a : Int) (hs : s.size = 2) (hx0 : ∀ h : 0 < s.size, ((s[0]'h).toNat : Int) = c0) (hx1 : ∀ h : 1 < s.size, ((s[1]'h).toNat : Int) = c1) (h1 : 224 ≤ c0) (h2 : c0 ≤ 239) (e0 : bits .and .i64 c0 15 = a) (m1 : (bits .and .u8 c1 192 == 128) = false) :
    Calls Tryd.prog 42 #[.string s] w fun e w' => e = .returned (.tuple #[.int .i64 0, .int .i64 0]) ∧ Below w.heap.size w w' := by
  have t2a : decide (194 ≤ c0) = true := by simp; omega
  have t2b : decide (c0 ≤ 223) = false := by simp; omega
  have t3a : decide (224 ≤ c0) = true := by simp; omega
  have t3b : decide (c0 ≤ 239) = true := by simp; omega
  have t4a : decide (240 ≤ c0) = false := by simp; omega
  have t4b : decide (c0 ≤ 244) = true := by simp; omega
  have q0 := eq_true (show (0:Int) < s.size by omega)
  have v0 := eq_true (show 0 < s.size by omega)
  have v1 := eq_true (show 1 < s.size by omega)
  have z1 : decide (3 ≤ (s.size : Int)) = false := by simp; omega
  have y1 : decide ((s.size : Int) ≤ 1) = false := by simp; omega
  have x1 : decide (1 < (s.size : Int)) = true := by simp; omega
  have u1 := eq_true (show (1:Int) < s.size by omega)
  have y2 : decide ((s.size : Int) ≤ 2) = true := by simp; omega
  have x2 : decide (2 < (s.size : Int)) = false := by simp; omega
  have i81 : ∀ w, (Instr.index 62 (.agg #[.int .i64 0, .int .i64 0, .int .i64 128, .int .i64 2048, .int .i64 65536]) (.int .i64 3)).run Tryd.prog w = .ok (.int .i64 2048) w := fun _ => by kernel_rfl
  have mm1 : (bits .and .u8 c1 192 != 128) = true := by rw [bne, m1]; rfl
  clear hs
  go_enter Tryd.func42, Tryd.ntmps42
  go_wp2
  go_quiet (fail)
  go_wp2
  refine wp_loop_rounds 3 ?_
  rw [rounds_succ]
  go_wp2
  all_goals
    go_ret2
    exact ⟨rfl, bg_drewN (Below.refl _ _) _⟩
set_option maxHeartbeats 4000000 in
set_option maxRecDepth 100000 in
theorem begun32 (s : ByteArray) (w : World) (c0 c1 a d1 L1 H2 L2 : Int) (hs : s.size = 2) (hx0 : ∀ h : 0 < s.size, ((s[0]'h).toNat : Int) = c0) (hx1 : ∀ h : 1 < s.size, ((s[1]'h).toNat : Int) = c1) (h1 : 224 ≤ c0) (h2 : c0 ≤ 239) (e0 : bits .and .i64 c0 15 = a) (m1 : (bits .and .u8 c1 192 == 128) = true) (n1 : bits .and .u8 c1 63 = d1) (p1 : 0 ≤ d1) (q1 : d1 ≤ 63) (l1 : bits .or .i64 (wrap64 (a * 64)) d1 = L1) (l2 : bits .or .i64 (wrap64 (L1 * 64)) 0 = L2) (r2 : bits .or .i64 (wrap64 (L1 * 64)) 63 = H2) :
    Calls Tryd.prog 42 #[.string s] w fun e w' => e = .returned (.tuple #[.int .i64 (begFin 2048 L2 H2).1, .int .i64 (begFin 2048 L2 H2).2]) ∧ Below w.heap.size w w' := by
  have t2a : decide (194 ≤ c0) = true := by simp; omega
  have t2b : decide (c0 ≤ 223) = false := by simp; omega
  have t3a : decide (224 ≤ c0) = true := by simp; omega
  have t3b : decide (c0 ≤ 239) = true := by simp; omega
  have t4a : decide (240 ≤ c0) = false := by simp; omega
  have t4b : decide (c0 ≤ 244) = true := by simp; omega
  have q0 := eq_true (show (0:Int) < s.size by omega)
  have v0 := eq_true (show 0 < s.size by omega)
  have v1 := eq_true (show 1 < s.size by omega)
  have z1 : decide (3 ≤ (s.size : Int)) = false := by simp; omega
  have y1 : decide ((s.size : Int) ≤ 1) = false := by simp; omega
  have x1 : decide (1 < (s.size : Int)) = true := by simp; omega
  have u1 := eq_true (show (1:Int) < s.size by omega)
  have y2 : decide ((s.size : Int) ≤ 2) = true := by simp; omega
  have x2 : decide (2 < (s.size : Int)) = false := by simp; omega
  have i81 : ∀ w, (Instr.index 62 (.agg #[.int .i64 0, .int .i64 0, .int .i64 128, .int .i64 2048, .int .i64 65536]) (.int .i64 3)).run Tryd.prog w = .ok (.int .i64 2048) w := fun _ => by kernel_rfl
  have mm1 : (bits .and .u8 c1 192 != 128) = false := by rw [bne, m1]; rfl
  clear hs
  go_enter Tryd.func42, Tryd.ntmps42
  go_wp2
  go_quiet (fail)
  go_wp2
  refine wp_loop_rounds 3 ?_
  rw [rounds_succ]
  go_wp2
  rw [rounds_succ]
  go_wp2
  rw [rounds_succ]
  go_wp2
  all_goals
    go_ret2
    refine ⟨ret2_i64 ?_ ?_, bg_drewN (Below.refl _ _) _⟩
    all_goals (unfold begFin; (repeat' split) <;> simp only [] <;> omega)
set_option maxHeartbeats 4000000 in
set_option maxRecDepth 100000 in
theorem begun41 (s : ByteArray) (w : World) (c0 a H1 L1 H2 L2 H3 L3 : Int) (hs : s.size = 1) (hx0 : ∀ h : 0 < s.size, ((s[0]'h).toNat : Int) = c0) (h1 : 240 ≤ c0) (h2 : c0 ≤ 244) (e0 : bits .and .i64 c0 7 = a) (l1 : bits .or .i64 (wrap64 (a * 64)) 0 = L1) (r1 : bits .or .i64 (wrap64 (a * 64)) 63 = H1) (l2 : bits .or .i64 (wrap64 (L1 * 64)) 0 = L2) (r2 : bits .or .i64 (wrap64 (H1 * 64)) 63 = H2) (l3 : bits .or .i64 (wrap64 (L2 * 64)) 0 = L3) (r3 : bits .or .i64 (wrap64 (H2 * 64)) 63 = H3) :
    Calls Tryd.prog 42 #[.string s] w fun e w' => e = .returned (.tuple #[.int .i64 (begFin 65536 L3 H3).1, .int .i64 (begFin 65536 L3 H3).2]) ∧ Below w.heap.size w w' := by
  have t2a : decide (194 ≤ c0) = true := by simp; omega
  have t2b : decide (c0 ≤ 223) = false := by simp; omega
  have t3a : decide (224 ≤ c0) = true := by simp; omega
  have t3b : decide (c0 ≤ 239) = false := by simp; omega
  have t4a : decide (240 ≤ c0) = true := by simp; omega
  have t4b : decide (c0 ≤ 244) = true := by simp; omega
  have q0 := eq_true (show (0:Int) < s.size by omega)
  have v0 := eq_true (show 0 < s.size by omega)
  have z1 : decide (4 ≤ (s.size : Int)) = false := by simp; omega
  have y1 : decide ((s.size : Int) ≤ 1) = true := by simp; omega
  have x1 : decide (1 < (s.size : Int)) = false := by simp; omega
  have y2 : decide ((s.size : Int) ≤ 2) = true := by simp; omega
  have x2 : decide (2 < (s.size : Int)) = false := by simp; omega
  have y3 : decide ((s.size : Int) ≤ 3) = true := by simp; omega
  have x3 : decide (3 < (s.size : Int)) = false := by simp; omega
  have i81 : ∀ w, (Instr.index 62 (.agg #[.int .i64 0, .int .i64 0, .int .i64 128, .int .i64 2048, .int .i64 65536]) (.int .i64 4)).run Tryd.prog w = .ok (.int .i64 65536) w := fun _ => by kernel_rfl
  clear hs
  go_enter Tryd.func42, Tryd.ntmps42
  go_wp2
  go_quiet (fail)
  go_wp2
  refine wp_loop_rounds 4 ?_
  rw [rounds_succ]
  go_wp2
  rw [rounds_succ]
  go_wp2
  rw [rounds_succ]
  go_wp2
  rw [rounds_succ]
  go_wp2
  all_goals
    go_ret2
    refine ⟨ret2_i64 ?_ ?_, bg_drewN (Below.refl _ _) _⟩
    all_goals (unfold begFin; (repeat' split) <;> simp only [] <;> omega)
set_option maxHeartbeats 4000000 in
set_option maxRecDepth 100000 in
theorem begun42b1 (s : ByteArray) (w : World) (c0 c1 a : Int) (hs : s.size = 2) (hx0 : ∀ h : 0 < s.size, ((s[0]'h).toNat : Int) = c0) (hx1 : ∀ h : 1 < s.size, ((s[1]'h).toNat : Int) = c1) (h1 : 240 ≤ c0) (h2 : c0 ≤ 244) (e0 : bits .and .i64 c0 7 = a) (m1 : (bits .and .u8 c1 192 == 128) = false) :
    Calls Tryd.prog 42 #[.string s] w fun e w' => e = .returned (.tuple #[.int .i64 0, .int .i64 0]) ∧ Below w.heap.size w w' := by
  have t2a : decide (194 ≤ c0) = true := by simp; omega
  have t2b : decide (c0 ≤ 223) = false := by simp; omega
  have t3a : decide (224 ≤ c0) = true := by simp; omega
  have t3b : decide (c0 ≤ 239) = false := by simp; omega
  have t4a : decide (240 ≤ c0) = true := by simp; omega
  have t4b : decide (c0 ≤ 244) = true := by simp; omega
  have q0 := eq_true (show (0:Int) < s.size by omega)
  have v0 := eq_true (show 0 < s.size by omega)
  have v1 := eq_true (show 1 < s.size by omega)
  have z1 : decide (4 ≤ (s.size : Int)) = false := by simp; omega
  have y1 : decide ((s.size : Int) ≤ 1) = false := by simp; omega
  have x1 : decide (1 < (s.size : Int)) = true := by simp; omega
  have u1 := eq_true (show (1:Int) < s.size by omega)
  have y2 : decide ((s.size : Int) ≤ 2) = true := by simp; omega
  have x2 : decide (2 < (s.size : Int)) = false := by simp; omega
  have y3 : decide ((s.size : Int) ≤ 3) = true := by simp; omega
  have x3 : decide (3 < (s.size : Int)) = false := by simp; omega
  have i81 : ∀ w, (Instr.index 62 (.agg #[.int .i64 0, .int .i64 0, .int .i64 128, .int .i64 2048, .int .i64 65536]) (.int .i64 4)).run Tryd.prog w = .ok (.int .i64 65536) w := fun _ => by kernel_rfl
  have mm1 : (bits .and .u8 c1 192 != 128) = true := by rw [bne, m1]; rfl
  clear hs
  go_enter Tryd.func42, Tryd.ntmps42
  go_wp2
  go_quiet (fail)
  go_wp2
  refine wp_loop_rounds 4 ?_
  rw [rounds_succ]
  go_wp2
  all_goals
    go_ret2
    exact ⟨rfl, bg_drewN (Below.refl _ _) _⟩
set_option maxHeartbeats 4000000 in
set_option maxRecDepth 100000 in
theorem begun42 (s : ByteArray) (w : World) (c0 c1 a d1 L1 H2 L2 H3 L3 : Int) (hs : s.size = 2) (hx0 : ∀ h : 0 < s.size, ((s[0]'h).toNat : Int) = c0) (hx1 : ∀ h : 1 < s.size, ((s[1]'h).toNat : Int) = c1) (h1 : 240 ≤ c0) (h2 : c0 ≤ 244) (e0 : bits .and .i64 c0 7 = a) (m1 : (bits .and .u8 c1 192 == 128) = true) (n1 : bits .and .u8 c1 63 = d1) (p1 : 0 ≤ d1) (q1 : d1 ≤ 63) (l1 : bits .or .i64 (wrap64 (a * 64)) d1 = L1) (l2 : bits .or .i64 (wrap64 (L1 * 64)) 0 = L2) (r2 : bits .or .i64 (wrap64 (L1 * 64)) 63 = H2) (l3 : bits .or .i64 (wrap64 (L2 * 64)) 0 = L3) (r3 : bits .or .i64 (wrap64 (H2 * 64)) 63 = H3) :
    Calls Tryd.prog 42 #[.string s] w fun e w' => e = .returned (.tuple #[.int .i64 (begFin 65536 L3 H3).1, .int .i64 (begFin 65536 L3 H3).2]) ∧ Below w.heap.size w w' := by
  have t2a : decide (194 ≤ c0) = true := by simp; omega
  have t2b : decide (c0 ≤ 223) = false := by simp; omega
  have t3a : decide (224 ≤ c0) = true := by simp; omega
  have t3b : decide (c0 ≤ 239) = false := by simp; omega
  have t4a : decide (240 ≤ c0) = true := by simp; omega
  have t4b : decide (c0 ≤ 244) = true := by simp; omega
  have q0 := eq_true (show (0:Int) < s.size by omega)
  have v0 := eq_true (show 0 < s.size by omega)
  have v1 := eq_true (show 1 < s.size by omega)
  have z1 : decide (4 ≤ (s.size : Int)) = false := by simp; omega
  have y1 : decide ((s.size : Int) ≤ 1) = false := by simp; omega
  have x1 : decide (1 < (s.size : Int)) = true := by simp; omega
  have u1 := eq_true (show (1:Int) < s.size by omega)
  have y2 : decide ((s.size : Int) ≤ 2) = true := by simp; omega
  have x2 : decide (2 < (s.size : Int)) = false := by simp; omega
  have y3 : decide ((s.size : Int) ≤ 3) = true := by simp; omega
  have x3 : decide (3 < (s.size : Int)) = false := by simp; omega
  have i81 : ∀ w, (Instr.index 62 (.agg #[.int .i64 0, .int .i64 0, .int .i64 128, .int .i64 2048, .int .i64 65536]) (.int .i64 4)).run Tryd.prog w = .ok (.int .i64 65536) w := fun _ => by kernel_rfl
  have mm1 : (bits .and .u8 c1 192 != 128) = false := by rw [bne, m1]; rfl
  clear hs
  go_enter Tryd.func42, Tryd.ntmps42
  go_wp2
  go_quiet (fail)
  go_wp2
  refine wp_loop_rounds 4 ?_
  rw [rounds_succ]
  go_wp2
  rw [rounds_succ]
  go_wp2
  rw [rounds_succ]
  go_wp2
  rw [rounds_succ]
  go_wp2
  all_goals
    go_ret2
    refine ⟨ret2_i64 ?_ ?_, bg_drewN (Below.refl _ _) _⟩
    all_goals (unfold begFin; (repeat' split) <;> simp only [] <;> omega)
set_option maxHeartbeats 4000000 in
set_option maxRecDepth 100000 in
theorem begun43b1 (s : ByteArray) (w : World) (c0 c1 c2 a : Int) (hs : s.size = 3) (hx0 : ∀ h : 0 < s.size, ((s[0]'h).toNat : Int) = c0) (hx1 : ∀ h : 1 < s.size, ((s[1]'h).toNat : Int) = c1) (hx2 : ∀ h : 2 < s.size, ((s[2]'h).toNat : Int) = c2) (h1 : 240 ≤ c0) (h2 : c0 ≤ 244) (e0 : bits .and .i64 c0 7 = a) (m1 : (bits .and .u8 c1 192 == 128) = false) :
    Calls Tryd.prog 42 #[.string s] w fun e w' => e = .returned (.tuple #[.int .i64 0, .int .i64 0]) ∧ Below w.heap.size w w' := by
  have t2a : decide (194 ≤ c0) = true := by simp; omega
  have t2b : decide (c0 ≤ 223) = false := by simp; omega
  have t3a : decide (224 ≤ c0) = true := by simp; omega
  have t3b : decide (c0 ≤ 239) = false := by simp; omega
  have t4a : decide (240 ≤ c0) = true := by simp; omega
  have t4b : decide (c0 ≤ 244) = true := by simp; omega
  have q0 := eq_true (show (0:Int) < s.size by omega)
  have v0 := eq_true (show 0 < s.size by omega)
  have v1 := eq_true (show 1 < s.size by omega)
  have v2 := eq_true (show 2 < s.size by omega)
  have z1 : decide (4 ≤ (s.size : Int)) = false := by simp; omega
  have y1 : decide ((s.size : Int) ≤ 1) = false := by simp; omega
  have x1 : decide (1 < (s.size : Int)) = true := by simp; omega
  have u1 := eq_true (show (1:Int) < s.size by omega)
  have y2 : decide ((s.size : Int) ≤ 2) = false := by simp; omega
  have x2 : decide (2 < (s.size : Int)) = true := by simp; omega
  have u2 := eq_true (show (2:Int) < s.size by omega)
  have y3 : decide ((s.size : Int) ≤ 3) = true := by simp; omega
  have x3 : decide (3 < (s.size : Int)) = false := by simp; omega
  have i81 : ∀ w, (Instr.index 62 (.agg #[.int .i64 0, .int .i64 0, .int .i64 128, .int .i64 2048, .int .i64 65536]) (.int .i64 4)).run Tryd.prog w = .ok (.int .i64 65536) w := fun _ => by kernel_rfl
  have mm1 : (bits .and .u8 c1 192 != 128) = true := by rw [bne, m1]; rfl
  clear hs
  go_enter Tryd.func42, Tryd.ntmps42
  go_wp2
  go_quiet (fail)
  go_wp2
  refine wp_loop_rounds 4 ?_
  rw [rounds_succ]
  go_wp2
  all_goals
    go_ret2
    exact ⟨rfl, bg_drewN (Below.refl _ _) _⟩
set_option maxHeartbeats 4000000 in
set_option maxRecDepth 100000 in
theorem begun43b2 (s : ByteArray) (w : World) (c0 c1 c2 a d1 L1 : Int) (hs : s.size = 3) (hx0 : ∀ h : 0 < s.size, ((s[0]'h).toNat : Int) = c0) (hx1 : ∀ h : 1 < s.size, ((s[1]'h).toNat : Int) = c1) (hx2 : ∀ h : 2 < s.size, ((s[2]'h).toNat : Int) = c2) (h1 : 240 ≤ c0) (h2 : c0 ≤ 244) (e0 : bits .and .i64 c0 7 = a) (m1 : (bits .and .u8 c1 192 == 128) = true) (n1 : bits .and .u8 c1 63 = d1) (p1 : 0 ≤ d1) (q1 : d1 ≤ 63) (l1 : bits .or .i64 (wrap64 (a * 64)) d1 = L1) (m2 : (bits .and .u8 c2 192 == 128) = false) :
    Calls Tryd.prog 42 #[.string s] w fun e w' => e = .returned (.tuple #[.int .i64 0, .int .i64 0]) ∧ Below w.heap.size w w' := by
  have t2a : decide (194 ≤ c0) = true := by simp; omega
  have t2b : decide (c0 ≤ 223) = false := by simp; omega
  have t3a : decide (224 ≤ c0) = true := by simp; omega
  have t3b : decide (c0 ≤ 239) = false := by simp; omega
  have t4a : decide (240 ≤ c0) = true := by simp; omega
  have t4b : decide (c0 ≤ 244) = true := by simp; omega
  have q0 := eq_true (show (0:Int) < s.size by omega)
  have v0 := eq_true (show 0 < s.size by omega)
  have v1 := eq_true (show 1 < s.size by omega)
  have v2 := eq_true (show 2 < s.size by omega)
  have z1 : decide (4 ≤ (s.size : Int)) = false := by simp; omega
  have y1 : decide ((s.size : Int) ≤ 1) = false := by simp; omega
  have x1 : decide (1 < (s.size : Int)) = true := by simp; omega
  have u1 := eq_true (show (1:Int) < s.size by omega)
  have y2 : decide ((s.size : Int) ≤ 2) = false := by simp; omega
  have x2 : decide (2 < (s.size : Int)) = true := by simp; omega
  have u2 := eq_true (show (2:Int) < s.size by omega)
  have y3 : decide ((s.size : Int) ≤ 3) = true := by simp; omega
  have x3 : decide (3 < (s.size : Int)) = false := by simp; omega
  have i81 : ∀ w, (Instr.index 62 (.agg #[.int .i64 0, .int .i64 0, .int .i64 128, .int .i64 2048, .int .i64 65536]) (.int .i64 4)).run Tryd.prog w = .ok (.int .i64 65536) w := fun _ => by kernel_rfl
  have mm1 : (bits .and .u8 c1 192 != 128) = false := by rw [bne, m1]; rfl
  have mm2 : (bits .and .u8 c2 192 != 128) = true := by rw [bne, m2]; rfl
  clear hs
  go_enter Tryd.func42, Tryd.ntmps42
  go_wp2
  go_quiet (fail)
  go_wp2
  refine wp_loop_rounds 4 ?_
  rw [rounds_succ]
  go_wp2
  rw [rounds_succ]
  go_wp2
  all_goals
    go_ret2
    exact ⟨rfl, bg_drewN (Below.refl _ _) _⟩
set_option maxHeartbeats 4000000 in
set_option maxRecDepth 100000 in
theorem begun43 (s : ByteArray) (w : World) (c0 c1 c2 a d1 L1 d2 L2 H3 L3 : Int) (hs : s.size = 3) (hx0 : ∀ h : 0 < s.size, ((s[0]'h).toNat : Int) = c0) (hx1 : ∀ h : 1 < s.size, ((s[1]'h).toNat : Int) = c1) (hx2 : ∀ h : 2 < s.size, ((s[2]'h).toNat : Int) = c2) (h1 : 240 ≤ c0) (h2 : c0 ≤ 244) (e0 : bits .and .i64 c0 7 = a) (m1 : (bits .and .u8 c1 192 == 128) = true) (n1 : bits .and .u8 c1 63 = d1) (p1 : 0 ≤ d1) (q1 : d1 ≤ 63) (l1 : bits .or .i64 (wrap64 (a * 64)) d1 = L1) (m2 : (bits .and .u8 c2 192 == 128) = true) (n2 : bits .and .u8 c2 63 = d2) (p2 : 0 ≤ d2) (q2 : d2 ≤ 63) (l2 : bits .or .i64 (wrap64 (L1 * 64)) d2 = L2) (l3 : bits .or .i64 (wrap64 (L2 * 64)) 0 = L3) (r3 : bits .or .i64 (wrap64 (L2 * 64)) 63 = H3) :
    Calls Tryd.prog 42 #[.string s] w fun e w' => e = .returned (.tuple #[.int .i64 (begFin 65536 L3 H3).1, .int .i64 (begFin 65536 L3 H3).2]) ∧ Below w.heap.size w w' := by
  have t2a : decide (194 ≤ c0) = true := by simp; omega
  have t2b : decide (c0 ≤ 223) = false := by simp; omega
  have t3a : decide (224 ≤ c0) = true := by simp; omega
  have t3b : decide (c0 ≤ 239) = false := by simp; omega
  have t4a : decide (240 ≤ c0) = true := by simp; omega
  have t4b : decide (c0 ≤ 244) = true := by simp; omega
  have q0 := eq_true (show (0:Int) < s.size by omega)
  have v0 := eq_true (show 0 < s.size by omega)
  have v1 := eq_true (show 1 < s.size by omega)
  have v2 := eq_true (show 2 < s.size by omega)
  have z1 : decide (4 ≤ (s.size : Int)) = false := by simp; omega
  have y1 : decide ((s.size : Int) ≤ 1) = false := by simp; omega
  have x1 : decide (1 < (s.size : Int)) = true := by simp; omega
  have u1 := eq_true (show (1:Int) < s.size by omega)
  have y2 : decide ((s.size : Int) ≤ 2) = false := by simp; omega
  have x2 : decide (2 < (s.size : Int)) = true := by simp; omega
  have u2 := eq_true (show (2:Int) < s.size by omega)
  have y3 : decide ((s.size : Int) ≤ 3) = true := by simp; omega
  have x3 : decide (3 < (s.size : Int)) = false := by simp; omega
  have i81 : ∀ w, (Instr.index 62 (.agg #[.int .i64 0, .int .i64 0, .int .i64 128, .int .i64 2048, .int .i64 65536]) (.int .i64 4)).run Tryd.prog w = .ok (.int .i64 65536) w := fun _ => by kernel_rfl
  have mm1 : (bits .and .u8 c1 192 != 128) = false := by rw [bne, m1]; rfl
  have mm2 : (bits .and .u8 c2 192 != 128) = false := by rw [bne, m2]; rfl
  clear hs
  go_enter Tryd.func42, Tryd.ntmps42
  go_wp2
  go_quiet (fail)
  go_wp2
  refine wp_loop_rounds 4 ?_
  rw [rounds_succ]
  go_wp2
  rw [rounds_succ]
  go_wp2
  rw [rounds_succ]
  go_wp2
  rw [rounds_succ]
  go_wp2
  all_goals
    go_ret2
    refine ⟨ret2_i64 ?_ ?_, bg_drewN (Below.refl _ _) _⟩
    all_goals (unfold begFin; (repeat' split) <;> simp only [] <;> omega)
end Go.Proofs.YtalbchgiijoeaaaDoor
