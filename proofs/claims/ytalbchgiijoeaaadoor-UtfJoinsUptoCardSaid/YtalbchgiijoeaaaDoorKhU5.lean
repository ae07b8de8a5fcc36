import Derived.Test.YtalbchgiijoeaaaDoorKhG0
import Derived.Test.YtalbchgiijoeaaaDoorBegun
-- Slimmed by slim.py from the text of this name without 'Kh'.
set_option linter.unusedVariables false
set_option linter.unusedSimpArgs false
namespace Go.Proofs.YtalbchgiijoeaaaDoor
open Go.RowKit Go.Proofs.YtalbchgiijoeaaaDoor.G Go.Proofs.YtalbchgiijoeaaaDoorW.PrintWords Go.Proofs.YtalbchgiijoeaaaDoorW.PrintLast Go.Proofs.YtalbchgiijoeaaaDoorW.PrintMore
set_option maxHeartbeats 4000000 in
set_option maxRecDepth 100000 in
theorem begun_lo (s : ByteArray) (w : World) (c0 : Int) (hs : 0 < s.size) (hx0 : ∀ h : 0 < s.size, ((s[0]'h).toNat : Int) = c0) (h1 : c0 ≤ 193) :
    Calls Tryd.prog 42 #[.string s] w fun e w' => e = .returned (.tuple #[.int .i64 0, .int .i64 0]) ∧ Below w.heap.size w w' := by
  have t2a : decide (194 ≤ c0) = false := by simp; omega
  have t3a : decide (224 ≤ c0) = false := by simp; omega
  have t4a : decide (240 ≤ c0) = false := by simp; omega
  have q0 := eq_true (show (0:Int) < s.size by omega)
  have v0 := eq_true (show 0 < s.size by omega)
  have z1 : decide (0 ≤ (s.size : Int)) = true := by simp
  clear hs
  go_enter Tryd.func42, Tryd.ntmps42
  go_wp2
  go_ret2
  exact ⟨rfl, Below.refl _ _⟩
set_option maxHeartbeats 4000000 in
set_option maxRecDepth 100000 in
theorem begun_hi (s : ByteArray) (w : World) (c0 : Int) (hs : 0 < s.size) (hx0 : ∀ h : 0 < s.size, ((s[0]'h).toNat : Int) = c0) (h1 : 245 ≤ c0) :
    Calls Tryd.prog 42 #[.string s] w fun e w' => e = .returned (.tuple #[.int .i64 0, .int .i64 0]) ∧ Below w.heap.size w w' := by
  have t2a : decide (194 ≤ c0) = true := by simp; omega
  have t2b : decide (c0 ≤ 223) = false := by simp; omega
  have t3a : decide (224 ≤ c0) = true := by simp; omega
  have t3b : decide (c0 ≤ 239) = false := by simp; omega
  have t4a : decide (240 ≤ c0) = true := by simp; omega
  have t4b : decide (c0 ≤ 244) = false := by simp; omega
  have q0 := eq_true (show (0:Int) < s.size by omega)
  have v0 := eq_true (show 0 < s.size by omega)
  have z1 : decide (0 ≤ (s.size : Int)) = true := by simp
  clear hs
  go_enter Tryd.func42, Tryd.ntmps42
  go_wp2
  go_ret2
  exact ⟨rfl, Below.refl _ _⟩
set_option maxHeartbeats 4000000 in
set_option maxRecDepth 100000 in
theorem begun_w2 (s : ByteArray) (w : World) (c0 : Int) (hs : 0 < s.size) (hx0 : ∀ h : 0 < s.size, ((s[0]'h).toNat : Int) = c0) (h1 : 194 ≤ c0) (h2 : c0 ≤ 223) (hn : 2 ≤ s.size) :
    Calls Tryd.prog 42 #[.string s] w fun e w' => e = .returned (.tuple #[.int .i64 0, .int .i64 0]) ∧ Below w.heap.size w w' := by
  have t2a : decide (194 ≤ c0) = true := by simp; omega
  have t2b : decide (c0 ≤ 223) = true := by simp; omega
  have t3a : decide (224 ≤ c0) = false := by simp; omega
  have t4a : decide (240 ≤ c0) = false := by simp; omega
  have q0 := eq_true (show (0:Int) < s.size by omega)
  have v0 := eq_true (show 0 < s.size by omega)
  have z1 : decide (2 ≤ (s.size : Int)) = true := by simp; omega
  clear hs hn
  go_enter Tryd.func42, Tryd.ntmps42
  go_wp2
  go_ret2
  exact ⟨rfl, Below.refl _ _⟩
set_option maxHeartbeats 4000000 in
set_option maxRecDepth 100000 in
theorem begun_w3 (s : ByteArray) (w : World) (c0 : Int) (hs : 0 < s.size) (hx0 : ∀ h : 0 < s.size, ((s[0]'h).toNat : Int) = c0) (h1 : 224 ≤ c0) (h2 : c0 ≤ 239) (hn : 3 ≤ s.size) :
    Calls Tryd.prog 42 #[.string s] w fun e w' => e = .returned (.tuple #[.int .i64 0, .int .i64 0]) ∧ Below w.heap.size w w' := by
  have t2a : decide (194 ≤ c0) = true := by simp; omega
  have t2b : decide (c0 ≤ 223) = false := by simp; omega
  have t3a : decide (224 ≤ c0) = true := by simp; omega
  have t3b : decide (c0 ≤ 239) = true := by simp; omega
  have t4a : decide (240 ≤ c0) = false := by simp; omega
  have q0 := eq_true (show (0:Int) < s.size by omega)
  have v0 := eq_true (show 0 < s.size by omega)
  have z1 : decide (3 ≤ (s.size : Int)) = true := by simp; omega
  clear hs hn
  go_enter Tryd.func42, Tryd.ntmps42
  go_wp2
  go_ret2
  exact ⟨rfl, Below.refl _ _⟩
set_option maxHeartbeats 4000000 in
set_option maxRecDepth 100000 in
theorem begun_w4 (s : ByteArray) (w : World) (c0 : Int) (hs : 0 < s.size) (hx0 : ∀ h : 0 < s.size, ((s[0]'h).toNat : Int) = c0) (h1 : 240 ≤ c0) (h2 : c0 ≤ 244) (hn : 4 ≤ s.size) :
    Calls Tryd.prog 42 #[.string s] w fun e w' => e = .returned (.tuple #[.int .i64 0, .int .i64 0]) ∧ Below w.heap.size w w' := by
  have t2a : decide (194 ≤ c0) = true := by simp; omega
  have t2b : decide (c0 ≤ 223) = false := by simp; omega
  have t3a : decide (224 ≤ c0) = true := by simp; omega
  have t3b : decide (c0 ≤ 239) = false := by simp; omega
  have t4a : decide (240 ≤ c0) = true := by simp; omega
  have t4b : decide (c0 ≤ 244) = true := by simp; omega
  have q0 := eq_true (show (0:Int) < s.size by omega)
  have v0 := eq_true (show 0 < s.size by omega)
  have z1 : decide (4 ≤ (s.size : Int)) = true := by simp; omega
  clear hs hn
  go_enter Tryd.func42, Tryd.ntmps42
  go_wp2
  go_ret2
  exact ⟨rfl, Below.refl _ _⟩
end Go.Proofs.YtalbchgiijoeaaaDoor


-- Slimmed by slim.py from the text of this name without 'Kh'.
set_option linter.unusedVariables false
set_option linter.unusedSimpArgs false
namespace Go.Proofs.YtalbchgiijoeaaaDoor
open Go.RowKit Go.Proofs.YtalbchgiijoeaaaDoor.G Go.Proofs.YtalbchgiijoeaaaDoorW.PrintWords Go.Proofs.YtalbchgiijoeaaaDoorW.PrintLast Go.Proofs.YtalbchgiijoeaaaDoorW.PrintMore
theorem wraps_i64 (n : Int) (h₀ : 0 ≤ n) (h₁ : n < 2 ^ 63) : IntKind.i64.wrap n = n := by rw [IntKind.wrap_i64]; omega
theorem i64_and31 {x : Int} (h₀ : 0 ≤ x) (h₁ : x ≤ 255) : bits .and .i64 x 31 = x % 32 := bits_mask .i64 63 (by decide) wraps_i64 5 (by decide) x h₀ (by omega)
theorem i64_and15 {x : Int} (h₀ : 0 ≤ x) (h₁ : x ≤ 255) : bits .and .i64 x 15 = x % 16 := bits_mask .i64 63 (by decide) wraps_i64 4 (by decide) x h₀ (by omega)
theorem i64_and7 {x : Int} (h₀ : 0 ≤ x) (h₁ : x ≤ 255) : bits .and .i64 x 7 = x % 8 := bits_mask .i64 63 (by decide) wraps_i64 3 (by decide) x h₀ (by omega)
theorem sh6 {x y : Int} (h₀ : 0 ≤ x) (h₁ : x < 100000000) (h2 : 0 ≤ y) (h3 : y ≤ 63) : bits .or .i64 (wrap64 (x * 64)) y = x * 64 + y := by
  have e : wrap64 (x * 64) = x * 64 := by unfold wrap64; omega
  rw [e]
  exact bits_join .i64 63 (by decide) wraps_i64 6 (x * 64) y (by omega) (by omega) (by omega) h2 (by omega) (by omega)
set_option maxRecDepth 100000 in
theorem cont_fin : ∀ x : Fin 256, (bits .and .u8 ((x.val : Nat) : Int) 192 == 128) = decide (x.val / 64 = 2) := by decide
theorem cont_byte (x : Int) (h₀ : 0 ≤ x) (h₁ : x ≤ 255) : (bits .and .u8 x 192 == 128) = decide (x / 64 = 2) := by
  obtain ⟨n, rfl⟩ := Int.eq_ofNat_of_zero_le h₀
  rw [cont_fin ⟨n, by omega⟩]
  by_cases h : n / 64 = 2
  · rw [decide_eq_true h, decide_eq_true (show ((n : Int) / 64 = 2) by omega)]
  · rw [decide_eq_false h, decide_eq_false (show ¬ ((n : Int) / 64 = 2) by omega)]
def begunF (b : ByteArray) : Option (Int × Int) :=
  if b.size = 0 then none
  else if bt b 0 ≤ 193 then some (0, 0)
  else if 245 ≤ bt b 0 then some (0, 0)
  else if bt b 0 ≤ 223 then (if 2 ≤ b.size then some (0, 0) else some (begFin 128 (bt b 0 % 32 * 64 + 0) (bt b 0 % 32 * 64 + 63)))
  else if bt b 0 ≤ 239 then
    (if 3 ≤ b.size then some (0, 0)
     else if b.size = 1 then some (begFin 2048 ((bt b 0 % 16 * 64 + 0) * 64 + 0) ((bt b 0 % 16 * 64 + 63) * 64 + 63))
     else if bt b 1 / 64 = 2 then some (begFin 2048 ((bt b 0 % 16 * 64 + bt b 1 % 64) * 64 + 0) ((bt b 0 % 16 * 64 + bt b 1 % 64) * 64 + 63))
     else some (0, 0))
  else
    (if 4 ≤ b.size then some (0, 0)
     else if b.size = 1 then some (begFin 65536 (((bt b 0 % 8 * 64 + 0) * 64 + 0) * 64 + 0) (((bt b 0 % 8 * 64 + 63) * 64 + 63) * 64 + 63))
     else if bt b 1 / 64 = 2 then
       (if b.size = 2 then some (begFin 65536 (((bt b 0 % 8 * 64 + bt b 1 % 64) * 64 + 0) * 64 + 0) (((bt b 0 % 8 * 64 + bt b 1 % 64) * 64 + 63) * 64 + 63))
        else if bt b 2 / 64 = 2 then some (begFin 65536 (((bt b 0 % 8 * 64 + bt b 1 % 64) * 64 + bt b 2 % 64) * 64 + 0) (((bt b 0 % 8 * 64 + bt b 1 % 64) * 64 + bt b 2 % 64) * 64 + 63))
        else some (0, 0))
     else some (0, 0))
theorem begun_any (b : ByteArray) (r1 r2 : Int) (w : World) (h : begunF b = some (r1, r2)) :
    Calls Tryd.prog 42 #[.string b] w fun e w' => e = .returned (.tuple #[.int .i64 r1, .int .i64 r2]) ∧ Below w.heap.size w w' := by
  have X0 : ∀ h : 0 < b.size, ((b[0]'h).toNat : Int) = bt b 0 := bt_at b 0
  have X1 : ∀ h : 1 < b.size, ((b[1]'h).toNat : Int) = bt b 1 := bt_at b 1
  have X2 : ∀ h : 2 < b.size, ((b[2]'h).toNat : Int) = bt b 2 := bt_at b 2
  obtain ⟨p0, q0⟩ := bt_range b 0
  obtain ⟨p1, q1⟩ := bt_range b 1
  obtain ⟨p2, q2⟩ := bt_range b 2
  have M1 := cont_byte (bt b 1) p1 q1
  have M2 := cont_byte (bt b 2) p2 q2
  have N1 : bits .and .u8 (bt b 1) 63 = bt b 1 % 64 := u8_and63 _ p1 (by omega)
  have N2 : bits .and .u8 (bt b 2) 63 = bt b 2 % 64 := u8_and63 _ p2 (by omega)
  unfold begunF at h
  by_cases z : b.size = 0
  · rw [if_pos z] at h; cases h
  rw [if_neg z] at h
  have hs : 0 < b.size := by omega
  by_cases c1 : bt b 0 ≤ 193
  · rw [if_pos c1] at h; cases h; exact begun_lo b w _ hs X0 c1
  rw [if_neg c1] at h
  by_cases c2 : 245 ≤ bt b 0
  · rw [if_pos c2] at h; cases h; exact begun_hi b w _ hs X0 c2
  rw [if_neg c2] at h
  by_cases c3 : bt b 0 ≤ 223
  · rw [if_pos c3] at h
    by_cases n2 : 2 ≤ b.size
    · rw [if_pos n2] at h; cases h; exact begun_w2 b w _ hs X0 (by omega) c3 n2
    · rw [if_neg n2] at h
      have := begun21 b w _ _ _ _ (by omega) X0 (by omega) c3 (i64_and31 p0 q0) (sh6 (by omega) (by omega) (by omega) (by omega)) (sh6 (by omega) (by omega) (by omega) (by omega))
      rw [Option.some.inj h] at this
      exact this
  rw [if_neg c3] at h
  by_cases c4 : bt b 0 ≤ 239
  · rw [if_pos c4] at h
    by_cases n3 : 3 ≤ b.size
    · rw [if_pos n3] at h; cases h; exact begun_w3 b w _ hs X0 (by omega) c4 n3
    rw [if_neg n3] at h
    by_cases n1 : b.size = 1
    · rw [if_pos n1] at h
      have := begun31 b w _ _ _ _ _ _ n1 X0 (by omega) c4 (i64_and15 p0 q0) (sh6 (by omega) (by omega) (by omega) (by omega)) (sh6 (by omega) (by omega) (by omega) (by omega)) (sh6 (by omega) (by omega) (by omega) (by omega)) (sh6 (by omega) (by omega) (by omega) (by omega))
      rw [Option.some.inj h] at this
      exact this
    rw [if_neg n1] at h
    by_cases k1 : bt b 1 / 64 = 2
    · rw [if_pos k1] at h
      have := begun32 b w _ _ _ _ _ _ _ (by omega) X0 X1 (by omega) c4 (i64_and15 p0 q0) (by rw [M1, decide_eq_true k1]) N1 (by omega) (by omega) (sh6 (by omega) (by omega) (by omega) (by omega)) (sh6 (by omega) (by omega) (by omega) (by omega)) (sh6 (by omega) (by omega) (by omega) (by omega))
      rw [Option.some.inj h] at this
      exact this
    · rw [if_neg k1] at h; cases h
      exact begun32b1 b w _ _ _ (by omega) X0 X1 (by omega) c4 (i64_and15 p0 q0) (by rw [M1, decide_eq_false k1])
  rw [if_neg c4] at h
  by_cases n4 : 4 ≤ b.size
  · rw [if_pos n4] at h; cases h; exact begun_w4 b w _ hs X0 (by omega) (by omega) n4
  rw [if_neg n4] at h
  by_cases n1 : b.size = 1
  · rw [if_pos n1] at h
    have := begun41 b w _ _ _ _ _ _ _ _ n1 X0 (by omega) (by omega) (i64_and7 p0 q0) (sh6 (by omega) (by omega) (by omega) (by omega)) (sh6 (by omega) (by omega) (by omega) (by omega)) (sh6 (by omega) (by omega) (by omega) (by omega)) (sh6 (by omega) (by omega) (by omega) (by omega)) (sh6 (by omega) (by omega) (by omega) (by omega)) (sh6 (by omega) (by omega) (by omega) (by omega))
    rw [Option.some.inj h] at this
    exact this
  rw [if_neg n1] at h
  by_cases k1 : bt b 1 / 64 = 2
  · rw [if_pos k1] at h
    have K1 : (bits .and .u8 (bt b 1) 192 == 128) = true := by rw [M1, decide_eq_true k1]
    by_cases n2 : b.size = 2
    · rw [if_pos n2] at h
      have := begun42 b w _ _ _ _ _ _ _ _ _ n2 X0 X1 (by omega) (by omega) (i64_and7 p0 q0) K1 N1 (by omega) (by omega) (sh6 (by omega) (by omega) (by omega) (by omega)) (sh6 (by omega) (by omega) (by omega) (by omega)) (sh6 (by omega) (by omega) (by omega) (by omega)) (sh6 (by omega) (by omega) (by omega) (by omega)) (sh6 (by omega) (by omega) (by omega) (by omega))
      rw [Option.some.inj h] at this
      exact this
    rw [if_neg n2] at h
    by_cases k2 : bt b 2 / 64 = 2
    · rw [if_pos k2] at h
      have := begun43 b w _ _ _ _ _ _ _ _ _ _ (by omega) X0 X1 X2 (by omega) (by omega) (i64_and7 p0 q0) K1 N1 (by omega) (by omega) (sh6 (by omega) (by omega) (by omega) (by omega)) (by rw [M2, decide_eq_true k2]) N2 (by omega) (by omega) (sh6 (by omega) (by omega) (by omega) (by omega)) (sh6 (by omega) (by omega) (by omega) (by omega)) (sh6 (by omega) (by omega) (by omega) (by omega))
      rw [Option.some.inj h] at this
      exact this
    · rw [if_neg k2] at h; cases h
      exact begun43b2 b w _ _ _ _ _ _ (by omega) X0 X1 X2 (by omega) (by omega) (i64_and7 p0 q0) K1 N1 (by omega) (by omega) (sh6 (by omega) (by omega) (by omega) (by omega)) (by rw [M2, decide_eq_false k2])
  · rw [if_neg k1] at h; cases h
    by_cases n2 : b.size = 2
    · exact begun42b1 b w _ _ _ n2 X0 X1 (by omega) (by omega) (i64_and7 p0 q0) (by rw [M1, decide_eq_false k1])
    · exact begun43b1 b w _ _ _ _ (by omega) X0 X1 X2 (by omega) (by omega) (i64_and7 p0 q0) (by rw [M1, decide_eq_false k1])
end Go.Proofs.YtalbchgiijoeaaaDoor


