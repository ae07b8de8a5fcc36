-- Slimmed by slim.py from the text of this name without 'Ke'.
import Derived.Test.YtalbchgiijoeaaaDoorKeP4
import Derived.Test.YtalbchgiijoeaaaDoorKeG0
import Derived.Test.YtalbchgiijoeaaaDoorKeG2
import Derived.Test.YtalbchgiijoeaaaDoorKeG3
import Derived.Test.YtalbchgiijoeaaaDoorKeG6
import Derived.Test.YtalbchgiijoeaaaDoorKeG15
import Derived.Test.YtalbchgiijoeaaaDoorKeP6
import Derived.Test.YtalbchgiijoeaaaDoorKeR2
import Derived.Test.YtalbchgiijoeaaaDoorKeG13
import Derived.Test.YtalbchgiijoeaaaDoorKeG25
import Derived.Test.YtalbchgiijoeaaaDoorKeG26
namespace Go.Proofs.YtalbchgiijoeaaaDoor
open Go.RowKit Go.Lib Go.Proofs.YtalbchgiijoeaaaDoor.G
open Go.Proofs.YtalbchgiijoeaaaDoorW.PrintWords
set_option linter.unusedVariables false
set_option linter.unusedSimpArgs false
theorem rd_at (l : List Int) (j : Nat) (h : j < l.length) : rd l (j : Int) = l[j] := by unfold rd; rw [Int.toNat_natCast, List.getD_eq_getElem?_getD, List.getElem?_eq_getElem h]; rfl
theorem same_from (a b : List Int) (hl : a.length = b.length) (hb : a.length ≤ 4398046511104) : ∀ d j k, a.length - j = d → j ≤ a.length → d < k → respelllaw01_same.l0 k a b j = some (decide (a.drop j = b.drop j)) := by
  intro d
  induction d with
  | zero =>
    intro j k h1 h2 h3
    obtain ⟨k, rfl⟩ : ∃ m, k = m + 1 := ⟨k - 1, by omega⟩
    rw [respelllaw01_same.l0, if_neg (by omega), List.drop_of_length_le (by omega), List.drop_of_length_le (by omega)]
    rfl
  | succ d ih =>
    intro j k h1 h2 h3
    obtain ⟨k, rfl⟩ : ∃ m, k = m + 1 := ⟨k - 1, by omega⟩
    have hj : j < a.length := by omega
    have hj' : j < b.length := by omega
    rw [respelllaw01_same.l0, if_pos (by omega), if_pos (by omega), if_pos (by omega), rd_at a j hj, rd_at b j hj', List.drop_eq_getElem_cons hj, List.drop_eq_getElem_cons hj']
    by_cases c : a[j] = b[j]
    · rw [if_pos c, wrap64_id _ (by omega) (by omega), show ((j : Int) + 1) = ((j + 1 : Nat) : Int) by omega, ih (j + 1) k (by omega) (by omega) (by omega), c]
      simp only [List.cons.injEq, true_and]
    · rw [if_neg c, decide_eq_false (fun h => c (List.cons.inj h).1)]
theorem same_is (k : Nat) (a b : List Int) (hb : a.length ≤ 4398046511104) (hk : a.length < k) : respelllaw01_same.f k a b = some (decide (a = b)) := by
  unfold respelllaw01_same.f
  by_cases c : a.length = b.length
  · have := same_from a b c hb a.length 0 k (by omega) (by omega) hk
    rw [List.drop_zero, List.drop_zero] at this
    rw [if_pos (by omega)]; exact this
  · rw [if_neg (by omega), decide_eq_false (fun h => c (by rw [h]))]
theorem cut_len (s : ByteArray) : (cutF s).length ≤ s.size := by unfold cutF units; rw [List.length_map]; exact uF_len s s.size 0
theorem cut_is (s : ByteArray) (hs : s.size ≤ 4398046511104) : utf_Cut.f s = some (cutF s) := by unfold utf_Cut.f; rw [if_pos (by omega)]
end Go.Proofs.YtalbchgiijoeaaaDoor

