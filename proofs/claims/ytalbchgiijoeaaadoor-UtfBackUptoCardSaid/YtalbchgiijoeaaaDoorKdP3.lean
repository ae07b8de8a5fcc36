-- Slimmed by slim.py from the text of this name without 'Kd'.
import Derived.Test.YtalbchgiijoeaaaDoorKdP2
import Derived.Test.YtalbchgiijoeaaaDoorKdG2
import Derived.Test.YtalbchgiijoeaaaDoorKdG3
import Derived.Test.YtalbchgiijoeaaaDoorKdG5
import Derived.Test.YtalbchgiijoeaaaDoorKdG6
import Derived.Test.YtalbchgiijoeaaaDoorKdG0
namespace Go.Proofs.YtalbchgiijoeaaaDoor
open Go.RowKit Go.Lib Go.Proofs.YtalbchgiijoeaaaDoor.G
open Go.Proofs.YtalbchgiijoeaaaDoorW.PrintWords
set_option linter.unusedVariables false
set_option linter.unusedSimpArgs false
theorem rune_len (k : Nat) (u : Int) (h0 : 0 ≤ u) (h : u ≤ 1114111) (hs : u < 55296 ∨ 57343 < u) : utf8_RuneLen.f (k + 1) u = some (wid u) := by
  unfold utf8_RuneLen.f wid
  simp only [utf8_RuneLen.j0, decide_eq_true_eq, Bool.false_eq_true, if_false, if_true]
  repeat' split
  all_goals first | rfl | (exfalso; omega)
theorem wrap32_id (u : Int) (h0 : 0 ≤ u) (h : u ≤ 2147483647) : wrap32 u = u := by unfold wrap32; omega
theorem wrap64_id (u : Int) (h0 : 0 ≤ u) (h : u ≤ 9223372036854775807) : wrap64 u = u := by unfold wrap64; omega
theorem utf_width (k : Nat) (u : Int) : utf_Width.f (k + 2) u = some (wid u) := by
  unfold utf_Width.f
  simp only [utf_Width.j0]
  by_cases c1 : u ≥ 1114240 ∧ u ≤ 1114367
  · rw [if_pos c1.1, if_pos (by simp; exact c1.2)]; unfold wid; rw [if_pos (.inr ⟨by omega, by omega⟩)]
  have e : ∀ z : Bool, z = false → (if z = true then (some 1 : Option Int) else (if u < 0 then (some 0) else (if u > 1114111 then (some 0) else (if u ≥ 55296 then (if u ≤ 57343 then (some 0) else ((utf8_RuneLen.f (k + 1) (wrap32 (u))).bind fun t101 => (some t101))) else ((utf8_RuneLen.f (k + 1) (wrap32 (u))).bind fun t102 => (some t102)))))) = some (wid u) := by
    rintro z rfl
    rw [if_neg (by decide)]
    by_cases c2 : u < 0
    · rw [if_pos c2]; unfold wid; rw [if_neg (by omega), if_neg (by omega), if_neg (by omega), if_neg (by omega)]
    rw [if_neg c2]
    by_cases c3 : u > 1114111
    · rw [if_pos c3]; unfold wid; rw [if_neg (by omega), if_neg (by omega), if_neg (by omega), if_neg (by omega)]
    rw [if_neg c3, wrap32_id u (by omega) (by omega)]
    by_cases c4 : u ≥ 55296
    · rw [if_pos c4]
      by_cases c5 : u ≤ 57343
      · rw [if_pos c5]; unfold wid; rw [if_neg (by omega), if_neg (by omega), if_neg (by omega), if_neg (by omega)]
      · rw [if_neg c5, rune_len k u (by omega) (by omega) (by omega)]; rfl
    · rw [if_neg c4, rune_len k u (by omega) (by omega) (by omega)]; rfl
  by_cases c6 : u ≥ 1114240
  · rw [if_pos c6, e _ (by simp; omega)]
  · rw [if_neg c6, e _ rfl]
theorem wid_cases (u : Int) : (wid u = 0 ∧ byts u = []) ∨ (1114240 ≤ u ∧ u ≤ 1114367 ∧ wid u = 1) ∨ (0 ≤ u ∧ u ≤ 127 ∧ wid u = 1) ∨ (128 ≤ u ∧ u ≤ 2047 ∧ wid u = 2) ∨ (2048 ≤ u ∧ u ≤ 65535 ∧ (u < 55296 ∨ 57343 < u) ∧ wid u = 3) ∨ (65536 ≤ u ∧ u ≤ 1114111 ∧ wid u = 4) := by
  have h := byts_len u
  by_cases c : wid u = 0
  · refine .inl ⟨c, List.eq_nil_of_length_eq_zero (by omega)⟩
  · unfold wid at *
    by_cases c1 : (0 ≤ u ∧ u ≤ 127) ∨ (1114240 ≤ u ∧ u ≤ 1114367)
    · rw [if_pos c1]; rcases c1 with c1 | c1 <;> omega
    rw [if_neg c1] at c ⊢
    by_cases c2 : 128 ≤ u ∧ u ≤ 2047
    · rw [if_pos c2]; omega
    rw [if_neg c2] at c ⊢
    by_cases c3 : 2048 ≤ u ∧ u ≤ 65535 ∧ (u < 55296 ∨ 57343 < u)
    · rw [if_pos c3]; omega
    rw [if_neg c3] at c ⊢
    by_cases c4 : 65536 ≤ u ∧ u ≤ 1114111
    · rw [if_pos c4]; omega
    · rw [if_neg c4] at c; exact absurd rfl c
theorem utf_put (k : Nat) (u : Int) : utf_Put.f (k + 2) u = some (strOfNums (byts u)) := by
  unfold utf_Put.f
  rw [utf_width]
  simp only [Option.bind_some]
  rcases wid_cases u with ⟨h, hb⟩ | ⟨h1, h2, h⟩ | ⟨h1, h2, h⟩ | ⟨h1, h2, h⟩ | ⟨h1, h2, h3, h⟩ | ⟨h1, h2, h⟩
  · rw [h, if_pos rfl, hb]; rfl
  · rw [h, if_neg (by decide), if_pos (by omega), wrap64_id _ (by omega) (by omega)]
    unfold byts; rw [if_pos (by omega)]
    rw [Int.emod_eq_of_lt (by omega) (by omega)]
  all_goals rw [h, if_neg (by decide), if_neg (by omega), wrap32_id u (by omega) (by omega)]
  all_goals (
    obtain ⟨n, rfl⟩ := Int.eq_ofNat_of_zero_le (show 0 ≤ u by omega)
    have hv : Utf8.valid (n : Int) = true := by unfold Utf8.valid; simp; omega
    rw [Option.some_inj]
    unfold Utf8.encode strOfNums
    rw [hv]
    simp only [if_true, Int.toNat_natCast])
  · rw [if_pos (by omega)]; unfold byts; rw [if_neg (by omega), if_pos (by omega)]; simp only [List.map_cons, List.map_nil, Int.toNat_natCast]
  · rw [if_neg (by omega), if_pos (by omega)]; unfold byts; rw [if_neg (by omega), if_neg (by omega), if_pos (by omega)]
    simp only [List.map_cons, List.map_nil, show (192 + (n : Int) / 64).toNat = 192 + n / 64 by omega, show (128 + (n : Int) % 64).toNat = 128 + n % 64 by omega]
  · rw [if_neg (by omega), if_neg (by omega), if_pos (by omega)]; unfold byts; rw [if_neg (by omega), if_neg (by omega), if_neg (by omega), if_pos (by omega)]
    simp only [List.map_cons, List.map_nil, show (224 + (n : Int) / 4096).toNat = 224 + n / 4096 by omega, show (128 + (n : Int) / 64 % 64).toNat = 128 + n / 64 % 64 by omega, show (128 + (n : Int) % 64).toNat = 128 + n % 64 by omega]
  · rw [if_neg (by omega), if_neg (by omega), if_neg (by omega)]; unfold byts; rw [if_neg (by omega), if_neg (by omega), if_neg (by omega), if_neg (by omega), if_pos (by omega)]
    simp only [List.map_cons, List.map_nil, show (240 + (n : Int) / 262144).toNat = 240 + n / 262144 by omega, show (128 + (n : Int) / 4096 % 64).toNat = 128 + n / 4096 % 64 by omega, show (128 + (n : Int) / 64 % 64).toNat = 128 + n / 64 % 64 by omega, show (128 + (n : Int) % 64).toNat = 128 + n % 64 by omega]
end Go.Proofs.YtalbchgiijoeaaaDoor

