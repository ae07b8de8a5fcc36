-- Slimmed by slim.py from the text of this name without 'Kf'.
import Derived.Test.YtalbchgiijoeaaaDoorKfP2
import Derived.Test.YtalbchgiijoeaaaDoorKfG2
import Derived.Test.YtalbchgiijoeaaaDoorKfG3
import Derived.Test.YtalbchgiijoeaaaDoorKfG5
import Derived.Test.YtalbchgiijoeaaaDoorKfG6
import Derived.Test.YtalbchgiijoeaaaDoorKfG0
namespace Go.Proofs.YtalbchgiijoeaaaDoor
open Go.RowKit Go.Lib Go.Proofs.YtalbchgiijoeaaaDoor.G
open Go.Proofs.YtalbchgiijoeaaaDoorW.PrintWords
set_option linter.unusedVariables false
set_option linter.unusedSimpArgs false
theorem rune_len (k : Nat) (u : Int) (h0 : 0 ≤ u) (h : u ≤ 1114111) (hs : u < 55296 ∨ 57343 < u) : utf8_RuneLen.f (k + 1) u = some (wid u) := by
  unfold utf8_RuneLen.f wid
  simp only [utf8_RuneLen.j0, decide_eq_true_eq, Bool.false_eq_true, if_false, if_true]
  repeat' split
  all_goals first | rfl | (exfalso; omega)
theorem wrap64_id (u : Int) (h0 : 0 ≤ u) (h : u ≤ 9223372036854775807) : wrap64 u = u := by unfold wrap64; omega
theorem wid_cases (u : Int) : (wid u = 0 ∧ byts u = []) ∨ (1114240 ≤ u ∧ u ≤ 1114367 ∧ wid u = 1) ∨ (0 ≤ u ∧ u ≤ 127 ∧ wid u = 1) ∨ (128 ≤ u ∧ u ≤ 2047 ∧ wid u = 2) ∨ (2048 ≤ u ∧ u ≤ 65535 ∧ (u < 55296 ∨ 57343 < u) ∧ wid u = 3) ∨ (65536 ≤ u ∧ u ≤ 1114111 ∧ wid u = 4) := by
  have h := byts_len u
  by_cases c : wid u = 0
  · refine .inl ⟨c, List.eq_nil_of_length_eq_zero (by omega)⟩
  · unfold wid at *
    by_cases c1 : (0 ≤ u ∧ u ≤ 127) ∨ (1114240 ≤ u ∧ u ≤ 1114367)
    · rw [if_pos c1]; rcases c1 with c1 | c1 <;> omega
    rw [if_neg c1] at c ⊢
    by_cases c2 : 128 ≤ u ∧ u ≤ 2047
    · rw [if_pos c2]; omega
    rw [if_neg c2] at c ⊢
    by_cases c3 : 2048 ≤ u ∧ u ≤ 65535 ∧ (u < 55296 ∨ 57343 < u)
    · rw [if_pos c3]; omega
    rw [if_neg c3] at c ⊢
    by_cases c4 : 65536 ≤ u ∧ u ≤ 1114111
    · rw [if_pos c4]; omega
    · rw [if_neg c4] at c; exact absurd rfl c
end Go.Proofs.YtalbchgiijoeaaaDoor

