-- Slimmed by slim.py from the text of this name without 'Kd'.
import Derived.Test.YtalbchgiijoeaaaDoorKdP8
import Derived.Test.YtalbchgiijoeaaaDoorKdG44
namespace Go.Proofs.YtalbchgiijoeaaaDoor
open Go.RowKit Go.Lib Go.Proofs.YtalbchgiijoeaaaDoor.G
open Go.Proofs.YtalbchgiijoeaaaDoorW.PrintWords
set_option linter.unusedVariables false
set_option linter.unusedSimpArgs false
theorem utfBack_pure (s : ByteArray) (l : List Int) (hs : s.size ≤ 1048576) (hl : l.length ≤ 1048576) (_hw : ∀ n ∈ l, (Lit.int .i64 n).wf = true) (_zz : s.size + l.length ≤ 1048576) : ∃ k, respelllaw01_UtfBack.f k s l = some true := by
  refine ⟨100000000, ?_⟩
  have hcl := cut_len s
  have hz := join_size l
  have hcz := cut_len (joinR l).1
  unfold respelllaw01_UtfBack.f respelllaw01_shown.f
  rw [Option.bind_some, if_pos rfl, cut_is s (by omega), Option.bind_some, join_is _ _ (by omega) (by omega), join_cut, Option.bind_some]
  simp only [if_true]
  rw [proper_is _ _ (by omega) (by omega), join_cut, Option.bind_some]
  simp only [decide_true, and_self, Bool.not_true]
  rw [show (100000000 : Nat) = 99999999 + 1 from rfl, respelllaw01_UtfBack.j0, if_neg (by decide), join_is _ _ (by omega) (by omega), Option.bind_some]
  by_cases c : (joinR l).2 = 0
  · rw [if_pos c, cut_is _ (by omega), Option.bind_some, same_is _ _ _ (by omega) (by omega), Option.bind_some, if_pos rfl, proper_is _ _ (by omega) (by omega), Option.bind_some]
    by_cases d : cutF (joinR l).1 = l
    · rw [decide_eq_true d, decide_eq_true ⟨c, d⟩]; rfl
    · rw [decide_eq_false d, decide_eq_false (fun h => d h.2)]; rfl
  · have he : joinR l = (⟨#[]⟩, 11) := by
      unfold joinR at c ⊢
      cases hj : joinL l with
      | none => rfl
      | some b => rw [hj] at c; exact absurd rfl c
    rw [if_neg c, if_pos rfl, proper_is _ _ (by omega) (by omega), Option.bind_some, decide_eq_false (fun h => c h.1), if_neg (by decide), he, ByteArray.toList_eq]
    rfl
end Go.Proofs.YtalbchgiijoeaaaDoor

