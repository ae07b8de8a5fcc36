-- Slimmed by slim.py from the text of this name without 'V'.
import Derived.Test.YtonljejhlphgpaaVS2
import Derived.Laws.BitsLemmas
import Derived.WalkLawsBesides
import Derived.WalkSpells
import Derived.Outline
set_option linter.unusedVariables false
set_option linter.unusedSimpArgs false
namespace Go.Proofs.Ytonljejhlphgpaa
open Go.RowKit Go.Proofs.Ytonljejhlphgpaa.G Go.Proofs.YtonljejhlphgpaaW.PrintWords
def cmpI (a b : Int) : Int := if a < b then -1 else if b < a then 1 else 0
theorem cmp_any (a b : Int) (w : World) : Calls Try.prog 86 #[.int .i64 a, .int .i64 b] w fun e w' => e = .returned (.int .i64 (cmpI a b)) ∧ w = w' := by
  by_cases h1 : a < b
  · have hc : cmpI a b = -1 := by unfold cmpI; rw [if_pos h1]
    rw [hc]
    go_enter Try.func86, Try.ntmps86
    go_wp2
    go_ret
    exact ⟨rfl, rfl⟩
  · by_cases h2 : b < a
    · have hc : cmpI a b = 1 := by unfold cmpI; rw [if_neg h1, if_pos h2]
      rw [hc]
      go_enter Try.func86, Try.ntmps86
      go_wp2
      go_ret
      exact ⟨rfl, rfl⟩
    · have hc : cmpI a b = 0 := by unfold cmpI; rw [if_neg h1, if_neg h2]
      rw [hc]
      go_enter Try.func86, Try.ntmps86
      go_wp2
      go_ret
      exact ⟨rfl, rfl⟩
theorem at1_any (lo hi u : Int) (w : World) : Calls Try.prog 85 #[.agg #[.int .i64 lo, .int .i64 hi], .int .i64 u] w fun e w' => e = .returned (.int .i64 (cmpI hi u)) ∧ Below w.heap.size w w' := by
  go_enter Try.func85, Try.ntmps85
  go_wp2_with (go_at_call 86; refine (cmp_any _ _ _).mono ?_; rintro e w' ⟨rfl, rfl⟩)
  go_ret
  exact ⟨rfl, (Below.refl _ _).alloc (Nat.le_refl _) _⟩
theorem mid_of (a b m : Nat) (h : a + b ≤ 18446744073709551615) (hm : m = (a + b) / 2) : wrap64 (IntKind.u64.wrap (wrap64 ((a : Int) + (b : Int))) / 2) = (m : Int) := by
  have e : IntKind.u64.wrap (wrap64 ((a : Int) + (b : Int))) = (a : Int) + (b : Int) := by
    simp only [IntKind.wrap, wrap64, IntKind.bits, IntKind.signed]
    simp
    omega
  rw [e]
  unfold wrap64
  omega
set_option maxRecDepth 100000 in
set_option maxHeartbeats 1000000 in
theorem bs_any (A : Option Addr) (c : Nat) (xs : List Rg) (u : Int) (w : World) (hC : Kd.C k68 w A xs.length xs) (hc : xs.length ≤ c) :
    Calls Try.prog 84 #[.slice A xs.length c, .int .i64 u, .func (.func 85) #[] #[]] w fun e w' => ∃ b : Bool, e = .returned (.tuple #[.int .i64 (atF xs u), .bool b]) ∧ Below w.heap.size w w' := by
  have hlen : xs.length ≤ 9223372036854775807 := hC.2.1
  have HC := Lib.hid hC
  clear hC
  go_enter Try.func84, Try.ntmps84
  go_wp2
  go_loopw [9, 10] (fun i j wr => ∃ a b k : Nat, i = .int .i64 a ∧ j = .int .i64 b ∧ a ≤ b ∧ b ≤ xs.length ∧ b - a ≤ k ∧ Hid (bsF xs u k a b = bsF xs u xs.length 0 xs.length) ∧ Hid (Below w.heap.size w wr)) (fun i j _ => (intOf j).toNat - (intOf i).toNat)
  case atStart => exact ⟨0, xs.length, xs.length, rfl, rfl, Nat.zero_le _, Nat.le_refl _, by omega, Lib.hid rfl, Lib.hid (Below.refl _ _)⟩
  case round =>
    obtain ⟨a, b, k, rfl, rfl, hab, hb, hk, hF, hB⟩ := hrel
    by_cases hlt : a < b
    · obtain ⟨m, hm⟩ : ∃ m, m = (a + b) / 2 := ⟨_, rfl⟩
      have hmid : wrap64 (IntKind.u64.wrap (wrap64 ((a : Int) + (b : Int))) / 2) = (m : Int) := mid_of a b m (by omega) hm
      have hm1 : m < xs.length := by omega
      obtain ⟨ad, e, d0, d1⟩ := at_T68 (Kd.C_below HC.out hB.out) (m : Int) (by omega) (by omega)
      simp only [Int.toNat_natCast] at d0 d1
      cases e
      obtain ⟨lo, hlo⟩ : ∃ lo, lo = (rd_T68 xs m).f0 := ⟨_, rfl⟩
      obtain ⟨hi, hhi⟩ : ∃ hi, hi = (rd_T68 xs m).f1 := ⟨_, rfl⟩
      rw [← hlo] at d0
      rw [← hhi] at d1
      have hstep : bsF xs u (k - 1 + 1) a b = if hi < u then bsF xs u (k - 1) (m + 1) b else bsF xs u (k - 1) a m := by
        rw [bsF, if_pos hlt, ← hm, ← hhi]
      rw [show k - 1 + 1 = k by omega] at hstep
      have Hst := Lib.hid hstep
      have hma : a ≤ m := by omega
      have hmb : m < b := by omega
      have hcalls := at1_any lo hi u
      obtain ⟨q, hq⟩ : ∃ q, q = cmpI hi u := ⟨_, rfl⟩
      rw [← hq] at hcalls
      have HQ := Lib.hid hq
      have HCL := Lib.hid hcalls
      have Hm := Lib.hid hm
      have hmi : (m : Int) < (xs.length : Int) := by omega
      clear hstep hlo hhi hq hcalls hm
      by_cases ht : hi < u
      · have hq0 : q < 0 := by rw [HQ.out]; unfold cmpI; rw [if_pos ht]; omega
        go_wp2_with (go_at_call 85; refine (HCL.out _).mono ?_; rintro e w1 ⟨rfl, hb1⟩)
        go_roundw
        case rel => exact ⟨m + 1, b, k - 1, by go_num, rfl, by omega, hb, by have := Hm.out; omega, Lib.hid (by rw [← hF.out, Hst.out, if_pos ht]), Lib.hid (below_then hB.out hB.out.size hb1)⟩
        case measure => simp [intOf]; omega
      · have hq0 : ¬ q < 0 := by rw [HQ.out]; unfold cmpI; rw [if_neg ht]; split <;> omega
        go_wp2_with (go_at_call 85; refine (HCL.out _).mono ?_; rintro e w1 ⟨rfl, hb1⟩)
        go_roundw
        case rel => exact ⟨a, m, k - 1, rfl, rfl, by omega, by omega, by have := Hm.out; omega, Lib.hid (by rw [← hF.out, Hst.out, if_neg (by omega)]), Lib.hid (below_then hB.out hB.out.size hb1)⟩
        case measure => simp [intOf]; omega
    · obtain rfl : a = b := by omega
      have hA : bsF xs u k a a = a := by cases k <;> simp [bsF]
      have hAt : atF xs u = (a : Int) := by unfold atF; rw [← hF.out, hA]
      have HA := Lib.hid hAt
      clear hA hAt
      by_cases hend : a < xs.length
      · obtain ⟨ad, e, d0, d1⟩ := at_T68 (Kd.C_below HC.out hB.out) (a : Int) (by omega) (by omega)
        simp only [Int.toNat_natCast] at d0 d1
        cases e
        obtain ⟨lo, hlo⟩ : ∃ lo, lo = (rd_T68 xs a).f0 := ⟨_, rfl⟩
        obtain ⟨hi, hhi⟩ : ∃ hi, hi = (rd_T68 xs a).f1 := ⟨_, rfl⟩
        rw [← hlo] at d0
        rw [← hhi] at d1
        have hcalls := at1_any lo hi u
        obtain ⟨q, hq⟩ : ∃ q, q = cmpI hi u := ⟨_, rfl⟩
        rw [← hq] at hcalls
        have HCL := Lib.hid hcalls
        have hai : (a : Int) < (xs.length : Int) := by omega
        clear hlo hhi hq hcalls
        go_wp2_with (go_at_call 85; refine (HCL.out _).mono ?_; rintro e w1 ⟨rfl, hb1⟩)
        go_ret2
        exact ⟨_, by rw [HA.out]; rfl, below_then hB.out hB.out.size hb1⟩
      · go_wp2
        go_ret2
        exact ⟨_, by rw [HA.out]; rfl, hB.out⟩
theorem at_calls0 (A : Option Addr) (c : Nat) (xs : List Rg) (u : Int) (w : World) (hC : Kd.C k68 w A xs.length xs) (hc : xs.length ≤ c) :
    Calls Try.prog 55 #[.slice A xs.length c, .int .i64 u] w fun e w' => e = .returned (.int .i64 (atF xs u)) ∧ Below w.heap.size w w' := by
  have HC := Lib.hid hC
  clear hC
  go_enter Try.func55, Try.ntmps55
  go_wp2_with (go_at_call 84; refine (bs_any A c xs u w HC.out hc).mono ?_; rintro e w' ⟨b, rfl, hb⟩)
  go_ret
  exact ⟨rfl, hb⟩
end Go.Proofs.Ytonljejhlphgpaa

