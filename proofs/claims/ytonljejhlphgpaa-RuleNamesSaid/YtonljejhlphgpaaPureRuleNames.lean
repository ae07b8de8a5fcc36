/- RuleNames: the numbers of layer 7 are the document's, and its examples hold; no condition. -/
import Derived.Test.YtonljejhlphgpaaG20
namespace Go.Proofs.Ytonljejhlphgpaa.Pure
open Go.RowKit Go.Proofs.Ytonljejhlphgpaa.G Go.Proofs.YtonljejhlphgpaaW.PrintWords Go.Proofs.YtonljejhlphgpaaW.PrintLast

/-- YOURS: ∃ k, respelllaw07_RuleNames.f k  = some true
What it reaches (each with k first where it has rounds; `.mono`: more rounds tell the same; `.l0`, ..: its loops, with `.mono_l`): respelllaw07_abc.f, rule_Lays.f, set_domain.f, set_whole.f, set_Valid.f, utf8_RuneLen.f, utf_Width.f, set_Len.f, rule_piece.f, rule_Check.f, respelllaw07_shown.f, respelllaw07_RuleNames.f -/
theorem RuleNames : respelllaw07_RuleNames.Pure := by
  exact ⟨60, by kernel_rfl⟩

end Go.Proofs.Ytonljejhlphgpaa.Pure
