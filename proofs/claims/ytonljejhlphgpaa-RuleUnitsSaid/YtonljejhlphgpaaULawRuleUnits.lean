-- Slimmed by slim.py from the text of this name without 'U'.
import Derived.Test.YtonljejhlphgpaaRows
import Derived.Test.YtonljejhlphgpaaUPureRuleUnits
import Derived.Test.YtonljejhlphgpaaUOpens
import Derived.WalkKit
import Derived.ProofKit
import Derived.OpenShut
import Derived.ShutString
import Derived.ChangeOld
import Derived.Below
import Derived.SizedLaws
namespace Go.Proofs.Ytonljejhlphgpaa.ruleUnits
open Go.ChangeShapes Go.WideShapes Go.ChangeAt Go.RowKit
set_option linter.unusedVariables false
theorem own : ownKnob Try.prog.godebug = none := by kernel_rfl
theorem laidOut : laidOutB Try.prog = true := by kernel_rfl
set_option maxRecDepth 100000 in
theorem lifted (os : Os) (started : os.Started) (H : Type) (enc : TypeId × Value → H) :
    ReturnsInHanded {} Try.checked os 4 .any (Rows.ruleUnitsSpec.pre6 enc Try.prog Try.f4 Rows.ruleUnitsRow.domain false) (Rows.ruleUnitsSpec.post enc Try.prog Try.f4 false true false false) := by
  refine returnsInHanded_of_change_sized (C := Try.checked) own started (by kernel_rfl) Try.func4
    (ChangeSpec.witness6 (enc := enc) (C := Try.checked) false ⟨#[], #[.agg #[.bool false, .slice none 0 0, .slice none 0 0, .slice none 0 0, .bool false, .slice none 0 0, .int .i64 0], .slice none 0 0], []⟩ 8 (by kernel_rfl) (by kernel_rfl) (by kernel_rfl) (by kernel_rfl)) ?_
  intro W base args ds gs before hval0 hW hcnd hsz0 _
  have hval : ∀ (j : Nat) t v, Try.f4.params[j]? = some t → args[j]? = some v → Value.okWide Try.prog W .any base t v := hval0
  have hW' := hW
  obtain ⟨p, q, hA0, hV, rfl, hfz, hnd⟩ := hW
  have hA : DataW.TrodAll enc Try.prog W 0 (fun _ => true) true Try.f4.params.toList args.toList ds p := hA0
  rw [Try.params4] at hA hval
  obtain ⟨v0, vs0, d0, ds0, p0, q0, hargs, rfl, rfl, h0, r0⟩ := trodAll_cons hA
  obtain ⟨v1, vs1, d1, ds1, p1, q1, rfl, rfl, rfl, h1, r1⟩ := trodAll_cons r0
  obtain ⟨rfl, rfl, rfl⟩ := trodAll_nil r1
  obtain rfl : args = #[v0, v1] := by cases args; simp_all
  obtain ⟨rfl, rfl⟩ := trodVars_none hV
  obtain ⟨cs, rfl, hcs⟩ := okWide_struct Try.underlying25 (hval 0 25 v0 rfl rfl)
  have k0 := h0
  have k1 := h1
  have lt0 : ∀ x ∈ p0, x.block < W.heap.size := by obtain ⟨m, hm⟩ := k0; exact DataW.trod_lt m _ _ _ hm
  have lt1 : ∀ x ∈ p1, x.block < W.heap.size := by obtain ⟨m, hm⟩ := k1; exact DataW.trod_lt m _ _ _ hm
  obtain ⟨n0, t0⟩ := h0
  obtain ⟨b, A1, c1, l1, A2, c2, l2, A3, c3, l3, e, A5, c5, l5, cur, hcells, g1, e1, g2, e2, g3, e3, g5, e5, hG⟩ := rule_cells t0
  have hagg : cs = #[.bool b, .slice A1 l1.length c1, .slice A2 l2.length c2, .slice A3 l3.length c3, .bool e, .slice A5 l5.length c5, .int .i64 cur] := by
    apply Array.toList_inj.1
    exact hcells
  subst hagg
  obtain ⟨a1, len1, cap1, rfl⟩ := okWide_slice Try.underlying26 (hval 1 26 v1 rfl rfl)
  obtain ⟨n1, t1⟩ := h1
  obtain ⟨us, ⟨A, c, hus, huc, hC⟩, _⟩ := opens_ints.run t1
  have hsl : Value.slice a1 len1 cap1 = Value.slice A us.length c := by
    have : [Value.slice a1 len1 cap1] = [Value.slice A us.length c] := hus
    exact List.head_eq_of_cons_eq this
  obtain ⟨rfl, rfl, rfl⟩ := Value.slice.inj hsl
  clear hA0 hval0 hsz0 t0 t1 hcells hus
  refine (G.respelllaw07_RuleUnits.calls 1000 b A1 c1 l1 A2 c2 l2 A3 c3 l3 e A5 c5 l5 cur a1 cap1 us true W g1 e1 g2 e2 g3 e3 g5 e5 hC huc (ruleUnits_pure b l1 l2 l3 e l5 cur us)).mono fun e W' ⟨he, bel⟩ => ?_
  subst he
  exact ⟨_, rfl, _, _, _, [], _, [], hW', trodAll_mk1 (shut_bool Try.underlying4 _), trodAll_cons_mk (Below.trod laidOut (by kernel_rfl) (of_decide_eq_true (by kernel_rfl)) k0 bel lt0) (trodAll_cons_mk (Below.trod laidOut (by kernel_rfl) (of_decide_eq_true (by kernel_rfl)) k1 bel lt1) trodAll_mk0), rfl, bel.frame _, fun h => by cases h⟩
theorem over : Rows.ruleUnitsRow.holds Try.pinned (OpenSpec.ofChange Rows.ruleUnitsSpec) :=
  OpenClaim.holds_of_wide 4 Try.f4 rfl rfl rfl rfl rfl rfl rfl ⟨rfl, rfl, rfl, rfl, rfl⟩ rfl rfl rfl rfl rfl (by kernel_rfl) Try.func4 (by kernel_rfl)
    (of_decide_eq_true (by kernel_rfl)) (by unfold Func.isWrapper; first | (rw [if_pos (by decide +kernel)]; kernel_rfl) | (rw [if_neg (by decide +kernel)]; exact ⟨rfl, rfl⟩))
    (fun os started H enc _ => lifted os started H enc)
end Go.Proofs.Ytonljejhlphgpaa.ruleUnits
namespace Go.Proofs.Ytonljejhlphgpaa
theorem ruleUnits_holds : Rows.RuleUnitsSaid := ruleUnits.over
end Go.Proofs.Ytonljejhlphgpaa

