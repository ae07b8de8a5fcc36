-- Slimmed by slim.py from the text of this name without 'Kc'.
import Derived.Test.YtalbchgiijoeaaaDoorKcP2
import Derived.Test.YtalbchgiijoeaaaDoorKcG2
import Derived.Test.YtalbchgiijoeaaaDoorKcG3
import Derived.Test.YtalbchgiijoeaaaDoorKcG5
import Derived.Test.YtalbchgiijoeaaaDoorKcG6
import Derived.Test.YtalbchgiijoeaaaDoorKcG17
import Derived.Test.YtalbchgiijoeaaaDoorKcG18
import Derived.Test.YtalbchgiijoeaaaDoorKcG19
import Derived.Test.YtalbchgiijoeaaaDoorKcG21
namespace Go.Proofs.YtalbchgiijoeaaaDoor
open Go.RowKit Go.Lib Go.Proofs.YtalbchgiijoeaaaDoor.G
open Go.Proofs.YtalbchgiijoeaaaDoorW.PrintWords
set_option linter.unusedVariables false
set_option linter.unusedSimpArgs false
theorem ref_width (k : Nat) (u : Int) : respellref01_Width.f (k + 3) u = some (wid u) := by
  unfold respellref01_Width.f wid
  simp only [respellref01_Width.j0, respellref01_Width.j1, respellref01_Width.j2, decide_eq_true_eq, Bool.false_eq_true, if_false, if_true]
  rcases (by omega : u < 0 ∨ (0 ≤ u ∧ u ≤ 127) ∨ (128 ≤ u ∧ u ≤ 2047) ∨ (2048 ≤ u ∧ u ≤ 55295) ∨ (55296 ≤ u ∧ u ≤ 57343) ∨ (57344 ≤ u ∧ u ≤ 65535) ∨ (65536 ≤ u ∧ u ≤ 1114111) ∨ (1114112 ≤ u ∧ u ≤ 1114239) ∨ (1114240 ≤ u ∧ u ≤ 1114367) ∨ 1114368 ≤ u) with h | h | h | h | h | h | h | h | h | h
  all_goals (repeat (first | rfl | rw [if_pos (by omega)] | rw [if_neg (by omega)]))
theorem wrap64_id (u : Int) (h0 : 0 ≤ u) (h : u ≤ 9223372036854775807) : wrap64 u = u := by unfold wrap64; omega
theorem wid_cases (u : Int) : (wid u = 0 ∧ byts u = []) ∨ (1114240 ≤ u ∧ u ≤ 1114367 ∧ wid u = 1) ∨ (0 ≤ u ∧ u ≤ 127 ∧ wid u = 1) ∨ (128 ≤ u ∧ u ≤ 2047 ∧ wid u = 2) ∨ (2048 ≤ u ∧ u ≤ 65535 ∧ (u < 55296 ∨ 57343 < u) ∧ wid u = 3) ∨ (65536 ≤ u ∧ u ≤ 1114111 ∧ wid u = 4) := by
  have h := byts_len u
  by_cases c : wid u = 0
  · refine .inl ⟨c, List.eq_nil_of_length_eq_zero (by omega)⟩
  · unfold wid at *
    by_cases c1 : (0 ≤ u ∧ u ≤ 127) ∨ (1114240 ≤ u ∧ u ≤ 1114367)
    · rw [if_pos c1]; rcases c1 with c1 | c1 <;> omega
    rw [if_neg c1] at c ⊢
    by_cases c2 : 128 ≤ u ∧ u ≤ 2047
    · rw [if_pos c2]; omega
    rw [if_neg c2] at c ⊢
    by_cases c3 : 2048 ≤ u ∧ u ≤ 65535 ∧ (u < 55296 ∨ 57343 < u)
    · rw [if_pos c3]; omega
    rw [if_neg c3] at c ⊢
    by_cases c4 : 65536 ≤ u ∧ u ≤ 1114111
    · rw [if_pos c4]; omega
    · rw [if_neg c4] at c; exact absurd rfl c
end Go.Proofs.YtalbchgiijoeaaaDoor

