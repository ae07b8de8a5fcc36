/-
  No cell of these rows narrows 'for every input' (looked for: loops, veiled, ifaces, maps, wideKeys, modest, calm, conditions, laid).
  DERIVED. THE GIVEN ROWS OF THIS SEAT. 10 by the template 'for every input the law returns true; each argument reads behind the call as it read before'; 0 by the template 'total and deterministic' (their statements: YtonljejhlphgpaaTotals.lean).
  GIVEN WITH THE SEED: the statements are not yours to turn. If you find one false, say at which input.
  Laid BY PROGRAM, IN A SANDBOX (cutbox-rows.mjs): the forced cells as the released guide's own fill.sh prints them over the translation c10718ac3fc2dbc4… (all of the seat's roots in one cut). By AI agents, Wed Nov 11 2026. No macro, syntax, notation, axiom, sorry.
-/
import Derived.Test.YtonljejhlphgpaaChecked
import GoSem.Claim
import GoSem.ClaimJoined
import GoSem.ClaimMapViews
import Derived.JoinedTies
import Derived.KernelRfl
namespace Go.Proofs.Ytonljejhlphgpaa
/- THE CELL 'sum', in the pinned program and in every row, IS THE sha256 OF THE DUMP (.gsa) THAT YtonljejhlphgpaaProg.lean LOADS. Nothing in Lean hashes anything: it is a label: what it is worth is what the hold of that sum in a sandbox is worth. -/
noncomputable def Try.pinned : Pinned := { name := "ytonljejhlphgpaa", sum := "c10718ac3fc2dbc49404998bff93686df82de51e5e2afd4ded8efada8cc7aba2", checked := Try.checked }
namespace Rows
def none {H : Type} : Left H := { results := [], args := [] }

/-- 'respelllaw07.RuleLays': WHATEVER THE INPUT: true; the input reads as it did. -/
def ruleLaysSpec : ChangeSpec := { name := "ruleLays", fn := fun _ => fun
  | [d1, d2, d3] => { results := [.lit (.bool true)], args := [d1, d2, d3] }
  | _ => none }
def ruleLaysRow : OpenClaim := { program := "ytonljejhlphgpaa", sum := "c10718ac3fc2dbc49404998bff93686df82de51e5e2afd4ded8efada8cc7aba2", func := "respell/respelllaw07.RuleLays", spec := "ruleLays", unfollowed := true, recurses := true, apart := false }
def RuleLaysSaid : Prop := ruleLaysRow.holds Try.pinned (OpenSpec.ofChange ruleLaysSpec)

/-- ITS FALSE NEIGHBOUR: 'it returns false'. Refute it at one input. -/
def ruleLaysWrong : ChangeSpec := { name := "ruleLays", fn := fun _ => fun
  | [d1, d2, d3] => { results := [.lit (.bool false)], args := [d1, d2, d3] }
  | _ => none }
def RuleLaysWrongFalsely : Prop := ruleLaysRow.holds Try.pinned (OpenSpec.ofChange ruleLaysWrong)

/-- 'respelllaw07.RuleUnits': WHATEVER THE INPUT: true; the input reads as it did. -/
def ruleUnitsSpec : ChangeSpec := { name := "ruleUnits", fn := fun _ => fun
  | [d1, d2] => { results := [.lit (.bool true)], args := [d1, d2] }
  | _ => none }
def ruleUnitsRow : OpenClaim := { program := "ytonljejhlphgpaa", sum := "c10718ac3fc2dbc49404998bff93686df82de51e5e2afd4ded8efada8cc7aba2", func := "respell/respelllaw07.RuleUnits", spec := "ruleUnits", unfollowed := true, recurses := true, apart := false }
def RuleUnitsSaid : Prop := ruleUnitsRow.holds Try.pinned (OpenSpec.ofChange ruleUnitsSpec)

/-- ITS FALSE NEIGHBOUR: 'it returns false'. Refute it at one input. -/
def ruleUnitsWrong : ChangeSpec := { name := "ruleUnits", fn := fun _ => fun
  | [d1, d2] => { results := [.lit (.bool false)], args := [d1, d2] }
  | _ => none }
def RuleUnitsWrongFalsely : Prop := ruleUnitsRow.holds Try.pinned (OpenSpec.ofChange ruleUnitsWrong)

/-- 'respelllaw07.RulePairs': WHATEVER THE INPUT: true; the input reads as it did. -/
def rulePairsSpec : ChangeSpec := { name := "rulePairs", fn := fun _ => fun
  | [d1, d2, d3, d4] => { results := [.lit (.bool true)], args := [d1, d2, d3, d4] }
  | _ => none }
def rulePairsRow : OpenClaim := { program := "ytonljejhlphgpaa", sum := "c10718ac3fc2dbc49404998bff93686df82de51e5e2afd4ded8efada8cc7aba2", func := "respell/respelllaw07.RulePairs", spec := "rulePairs", unfollowed := true, recurses := true, apart := false }
def RulePairsSaid : Prop := rulePairsRow.holds Try.pinned (OpenSpec.ofChange rulePairsSpec)

/-- ITS FALSE NEIGHBOUR: 'it returns false'. Refute it at one input. -/
def rulePairsWrong : ChangeSpec := { name := "rulePairs", fn := fun _ => fun
  | [d1, d2, d3, d4] => { results := [.lit (.bool false)], args := [d1, d2, d3, d4] }
  | _ => none }
def RulePairsWrongFalsely : Prop := rulePairsRow.holds Try.pinned (OpenSpec.ofChange rulePairsWrong)

/-- 'respelllaw07.RuleNames': WHATEVER THE INPUT: true; the input reads as it did. -/
def ruleNamesSpec : ChangeSpec := { name := "ruleNames", fn := fun _ => fun
  | [] => { results := [.lit (.bool true)], args := [] }
  | _ => none }
def ruleNamesRow : OpenClaim := { program := "ytonljejhlphgpaa", sum := "c10718ac3fc2dbc49404998bff93686df82de51e5e2afd4ded8efada8cc7aba2", func := "respell/respelllaw07.RuleNames", spec := "ruleNames", unfollowed := true, recurses := true, apart := false }
def RuleNamesSaid : Prop := ruleNamesRow.holds Try.pinned (OpenSpec.ofChange ruleNamesSpec)

/-- ITS FALSE NEIGHBOUR: 'it returns false'. Refute it at one input. -/
def ruleNamesWrong : ChangeSpec := { name := "ruleNames", fn := fun _ => fun
  | [] => { results := [.lit (.bool false)], args := [] }
  | _ => none }
def RuleNamesWrongFalsely : Prop := ruleNamesRow.holds Try.pinned (OpenSpec.ofChange ruleNamesWrong)

/-- 'respelllaw09.MatchFinds': WHATEVER THE INPUT: true; the input reads as it did. -/
def matchFindsSpec : ChangeSpec := { name := "matchFinds", fn := fun _ => fun
  | [d1, d2, d3, d4] => { results := [.lit (.bool true)], args := [d1, d2, d3, d4] }
  | _ => none }
def matchFindsRow : OpenClaim := { program := "ytonljejhlphgpaa", sum := "c10718ac3fc2dbc49404998bff93686df82de51e5e2afd4ded8efada8cc7aba2", func := "respell/respelllaw09.MatchFinds", spec := "matchFinds", unfollowed := true, recurses := true, apart := false }
def MatchFindsSaid : Prop := matchFindsRow.holds Try.pinned (OpenSpec.ofChange matchFindsSpec)

/-- ITS FALSE NEIGHBOUR: 'it returns false'. Refute it at one input. -/
def matchFindsWrong : ChangeSpec := { name := "matchFinds", fn := fun _ => fun
  | [d1, d2, d3, d4] => { results := [.lit (.bool false)], args := [d1, d2, d3, d4] }
  | _ => none }
def MatchFindsWrongFalsely : Prop := matchFindsRow.holds Try.pinned (OpenSpec.ofChange matchFindsWrong)

/-- 'respelllaw09.MatchNear': WHATEVER THE INPUT: true; the input reads as it did. -/
def matchNearSpec : ChangeSpec := { name := "matchNear", fn := fun _ => fun
  | [d1, d2, d3, d4] => { results := [.lit (.bool true)], args := [d1, d2, d3, d4] }
  | _ => none }
def matchNearRow : OpenClaim := { program := "ytonljejhlphgpaa", sum := "c10718ac3fc2dbc49404998bff93686df82de51e5e2afd4ded8efada8cc7aba2", func := "respell/respelllaw09.MatchNear", spec := "matchNear", unfollowed := true, recurses := true, apart := false }
def MatchNearSaid : Prop := matchNearRow.holds Try.pinned (OpenSpec.ofChange matchNearSpec)

/-- ITS FALSE NEIGHBOUR: 'it returns false'. Refute it at one input. -/
def matchNearWrong : ChangeSpec := { name := "matchNear", fn := fun _ => fun
  | [d1, d2, d3, d4] => { results := [.lit (.bool false)], args := [d1, d2, d3, d4] }
  | _ => none }
def MatchNearWrongFalsely : Prop := matchNearRow.holds Try.pinned (OpenSpec.ofChange matchNearWrong)

/-- 'respelllaw09.MatchBest': WHATEVER THE INPUT: true; the input reads as it did. -/
def matchBestSpec : ChangeSpec := { name := "matchBest", fn := fun _ => fun
  | [d1, d2, d3] => { results := [.lit (.bool true)], args := [d1, d2, d3] }
  | _ => none }
def matchBestRow : OpenClaim := { program := "ytonljejhlphgpaa", sum := "c10718ac3fc2dbc49404998bff93686df82de51e5e2afd4ded8efada8cc7aba2", func := "respell/respelllaw09.MatchBest", spec := "matchBest", unfollowed := true, recurses := true, apart := false }
def MatchBestSaid : Prop := matchBestRow.holds Try.pinned (OpenSpec.ofChange matchBestSpec)

/-- ITS FALSE NEIGHBOUR: 'it returns false'. Refute it at one input. -/
def matchBestWrong : ChangeSpec := { name := "matchBest", fn := fun _ => fun
  | [d1, d2, d3] => { results := [.lit (.bool false)], args := [d1, d2, d3] }
  | _ => none }
def MatchBestWrongFalsely : Prop := matchBestRow.holds Try.pinned (OpenSpec.ofChange matchBestWrong)

/-- 'respelllaw09.MatchMore': WHATEVER THE INPUT: true; the input reads as it did. -/
def matchMoreSpec : ChangeSpec := { name := "matchMore", fn := fun _ => fun
  | [d1, d2, d3, d4] => { results := [.lit (.bool true)], args := [d1, d2, d3, d4] }
  | _ => none }
def matchMoreRow : OpenClaim := { program := "ytonljejhlphgpaa", sum := "c10718ac3fc2dbc49404998bff93686df82de51e5e2afd4ded8efada8cc7aba2", func := "respell/respelllaw09.MatchMore", spec := "matchMore", unfollowed := true, recurses := true, apart := false }
def MatchMoreSaid : Prop := matchMoreRow.holds Try.pinned (OpenSpec.ofChange matchMoreSpec)

/-- ITS FALSE NEIGHBOUR: 'it returns false'. Refute it at one input. -/
def matchMoreWrong : ChangeSpec := { name := "matchMore", fn := fun _ => fun
  | [d1, d2, d3, d4] => { results := [.lit (.bool false)], args := [d1, d2, d3, d4] }
  | _ => none }
def MatchMoreWrongFalsely : Prop := matchMoreRow.holds Try.pinned (OpenSpec.ofChange matchMoreWrong)

/-- 'respelllaw07.RuleChecks': WHATEVER THE INPUT: true; the input reads as it did. -/
def ruleChecksSpec : ChangeSpec := { name := "ruleChecks", fn := fun _ => fun
  | [d1, d2] => { results := [.lit (.bool true)], args := [d1, d2] }
  | _ => none }
def ruleChecksRow : OpenClaim := { program := "ytonljejhlphgpaa", sum := "c10718ac3fc2dbc49404998bff93686df82de51e5e2afd4ded8efada8cc7aba2", func := "respell/respelllaw07.RuleChecks", spec := "ruleChecks", unfollowed := true, recurses := true, apart := false }
def RuleChecksSaid : Prop := ruleChecksRow.holds Try.pinned (OpenSpec.ofChange ruleChecksSpec)

/-- ITS FALSE NEIGHBOUR: 'it returns false'. Refute it at one input. -/
def ruleChecksWrong : ChangeSpec := { name := "ruleChecks", fn := fun _ => fun
  | [d1, d2] => { results := [.lit (.bool false)], args := [d1, d2] }
  | _ => none }
def RuleChecksWrongFalsely : Prop := ruleChecksRow.holds Try.pinned (OpenSpec.ofChange ruleChecksWrong)

/-- 'respelllaw07.RuleSame': WHATEVER THE INPUT: true; the input reads as it did. -/
def ruleSameSpec : ChangeSpec := { name := "ruleSame", fn := fun _ => fun
  | [d1, d2] => { results := [.lit (.bool true)], args := [d1, d2] }
  | _ => none }
def ruleSameRow : OpenClaim := { program := "ytonljejhlphgpaa", sum := "c10718ac3fc2dbc49404998bff93686df82de51e5e2afd4ded8efada8cc7aba2", func := "respell/respelllaw07.RuleSame", spec := "ruleSame", unfollowed := true, recurses := true, apart := false }
def RuleSameSaid : Prop := ruleSameRow.holds Try.pinned (OpenSpec.ofChange ruleSameSpec)

/-- ITS FALSE NEIGHBOUR: 'it returns false'. Refute it at one input. -/
def ruleSameWrong : ChangeSpec := { name := "ruleSame", fn := fun _ => fun
  | [d1, d2] => { results := [.lit (.bool false)], args := [d1, d2] }
  | _ => none }
def RuleSameWrongFalsely : Prop := ruleSameRow.holds Try.pinned (OpenSpec.ofChange ruleSameWrong)

/- THE SECOND FORM. 'bulk': how many values and letters a reading holds, each counted each time it is reached (what is shared counts as often as it is met; a slice's spare places count too). A statement '..UptoSaid' is the law's where the arguments, and the package variables that the reading takes, are together of bulk at most 1048576: NARROWER than '..Said'. Prove '..Said' where nothing that the law and all that it calls make is longer than what came in: it says more and counts as full. Else prove '..UptoSaid'. A law counts once. -/
mutual
def uptoBulk {H : Type} : DataW H → Nat
  | .lit (.string bytes) => bytes.length + 1
  | .lit _ => 1
  | .nil => 1
  | .ptr d => uptoBulk d + 1
  | .slice elems spare => uptoBulkAll elems + uptoBulkAll spare + 1
  | .agg parts => uptoBulkAll parts + 1
  | .iface _ d => uptoBulk d + 1
  | .map entries => uptoBulkEntries entries + 1
  | .held _ => 1
def uptoBulkAll {H : Type} : List (DataW H) → Nat
  | [] => 0
  | d :: r => uptoBulk d + uptoBulkAll r
def uptoBulkEntries {H : Type} : List (Lit × DataW H) → Nat
  | [] => 0
  | x :: r => uptoBulkEntry x + uptoBulkEntries r
def uptoBulkEntry {H : Type} : Lit × DataW H → Nat
  | (.string bytes, d) => bytes.length + uptoBulk d + 1
  | (_, d) => uptoBulk d + 1
 end
def uptoSmall : (H : Type) → List (DataW H) → Bool := fun _ ds => decide (uptoBulkAll ds ≤ 1048576)
def OpenSpec.upto (s : _root_.Go.ChangeSpec) : _root_.Go.OpenSpec := { _root_.Go.OpenSpec.ofChange s with cond := some uptoSmall }

/-- 'respelllaw07.RuleLays', WHERE WHAT IT READS IS OF BULK AT MOST 1048576: true; the input reads as it did. -/
def ruleLaysUptoRow : OpenClaim := { program := "ytonljejhlphgpaa", sum := "c10718ac3fc2dbc49404998bff93686df82de51e5e2afd4ded8efada8cc7aba2", func := "respell/respelllaw07.RuleLays", spec := "ruleLays", unfollowed := true, recurses := true, apart := false, narrowed := true }
def RuleLaysUptoSaid : Prop := ruleLaysUptoRow.holds Try.pinned (OpenSpec.upto ruleLaysSpec)

/-- 'respelllaw07.RuleUnits', WHERE WHAT IT READS IS OF BULK AT MOST 1048576: true; the input reads as it did. -/
def ruleUnitsUptoRow : OpenClaim := { program := "ytonljejhlphgpaa", sum := "c10718ac3fc2dbc49404998bff93686df82de51e5e2afd4ded8efada8cc7aba2", func := "respell/respelllaw07.RuleUnits", spec := "ruleUnits", unfollowed := true, recurses := true, apart := false, narrowed := true }
def RuleUnitsUptoSaid : Prop := ruleUnitsUptoRow.holds Try.pinned (OpenSpec.upto ruleUnitsSpec)

/-- 'respelllaw07.RulePairs', WHERE WHAT IT READS IS OF BULK AT MOST 1048576: true; the input reads as it did. -/
def rulePairsUptoRow : OpenClaim := { program := "ytonljejhlphgpaa", sum := "c10718ac3fc2dbc49404998bff93686df82de51e5e2afd4ded8efada8cc7aba2", func := "respell/respelllaw07.RulePairs", spec := "rulePairs", unfollowed := true, recurses := true, apart := false, narrowed := true }
def RulePairsUptoSaid : Prop := rulePairsUptoRow.holds Try.pinned (OpenSpec.upto rulePairsSpec)

/-- 'respelllaw07.RuleNames', WHERE WHAT IT READS IS OF BULK AT MOST 1048576: true; the input reads as it did. -/
def ruleNamesUptoRow : OpenClaim := { program := "ytonljejhlphgpaa", sum := "c10718ac3fc2dbc49404998bff93686df82de51e5e2afd4ded8efada8cc7aba2", func := "respell/respelllaw07.RuleNames", spec := "ruleNames", unfollowed := true, recurses := true, apart := false, narrowed := true }
def RuleNamesUptoSaid : Prop := ruleNamesUptoRow.holds Try.pinned (OpenSpec.upto ruleNamesSpec)

/-- 'respelllaw09.MatchFinds', WHERE WHAT IT READS IS OF BULK AT MOST 1048576: true; the input reads as it did. -/
def matchFindsUptoRow : OpenClaim := { program := "ytonljejhlphgpaa", sum := "c10718ac3fc2dbc49404998bff93686df82de51e5e2afd4ded8efada8cc7aba2", func := "respell/respelllaw09.MatchFinds", spec := "matchFinds", unfollowed := true, recurses := true, apart := false, narrowed := true }
def MatchFindsUptoSaid : Prop := matchFindsUptoRow.holds Try.pinned (OpenSpec.upto matchFindsSpec)

/-- 'respelllaw09.MatchNear', WHERE WHAT IT READS IS OF BULK AT MOST 1048576: true; the input reads as it did. -/
def matchNearUptoRow : OpenClaim := { program := "ytonljejhlphgpaa", sum := "c10718ac3fc2dbc49404998bff93686df82de51e5e2afd4ded8efada8cc7aba2", func := "respell/respelllaw09.MatchNear", spec := "matchNear", unfollowed := true, recurses := true, apart := false, narrowed := true }
def MatchNearUptoSaid : Prop := matchNearUptoRow.holds Try.pinned (OpenSpec.upto matchNearSpec)

/-- 'respelllaw09.MatchBest', WHERE WHAT IT READS IS OF BULK AT MOST 1048576: true; the input reads as it did. -/
def matchBestUptoRow : OpenClaim := { program := "ytonljejhlphgpaa", sum := "c10718ac3fc2dbc49404998bff93686df82de51e5e2afd4ded8efada8cc7aba2", func := "respell/respelllaw09.MatchBest", spec := "matchBest", unfollowed := true, recurses := true, apart := false, narrowed := true }
def MatchBestUptoSaid : Prop := matchBestUptoRow.holds Try.pinned (OpenSpec.upto matchBestSpec)

/-- 'respelllaw09.MatchMore', WHERE WHAT IT READS IS OF BULK AT MOST 1048576: true; the input reads as it did. -/
def matchMoreUptoRow : OpenClaim := { program := "ytonljejhlphgpaa", sum := "c10718ac3fc2dbc49404998bff93686df82de51e5e2afd4ded8efada8cc7aba2", func := "respell/respelllaw09.MatchMore", spec := "matchMore", unfollowed := true, recurses := true, apart := false, narrowed := true }
def MatchMoreUptoSaid : Prop := matchMoreUptoRow.holds Try.pinned (OpenSpec.upto matchMoreSpec)

/-- 'respelllaw07.RuleChecks', WHERE WHAT IT READS IS OF BULK AT MOST 1048576: true; the input reads as it did. -/
def ruleChecksUptoRow : OpenClaim := { program := "ytonljejhlphgpaa", sum := "c10718ac3fc2dbc49404998bff93686df82de51e5e2afd4ded8efada8cc7aba2", func := "respell/respelllaw07.RuleChecks", spec := "ruleChecks", unfollowed := true, recurses := true, apart := false, narrowed := true }
def RuleChecksUptoSaid : Prop := ruleChecksUptoRow.holds Try.pinned (OpenSpec.upto ruleChecksSpec)

/-- 'respelllaw07.RuleSame', WHERE WHAT IT READS IS OF BULK AT MOST 1048576: true; the input reads as it did. -/
def ruleSameUptoRow : OpenClaim := { program := "ytonljejhlphgpaa", sum := "c10718ac3fc2dbc49404998bff93686df82de51e5e2afd4ded8efada8cc7aba2", func := "respell/respelllaw07.RuleSame", spec := "ruleSame", unfollowed := true, recurses := true, apart := false, narrowed := true }
def RuleSameUptoSaid : Prop := ruleSameUptoRow.holds Try.pinned (OpenSpec.upto ruleSameSpec)

end Rows
end Go.Proofs.Ytonljejhlphgpaa
