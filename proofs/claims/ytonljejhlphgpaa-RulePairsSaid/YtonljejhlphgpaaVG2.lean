-- Slimmed by slim.py from the text of this name without 'V'.
import Derived.Test.YtonljejhlphgpaaVG0
namespace Go.Proofs.Ytonljejhlphgpaa.G
open Go.RowKit Go.Proofs.YtonljejhlphgpaaW.PrintWords Go.Proofs.YtonljejhlphgpaaW.PrintLast Go.Proofs.YtonljejhlphgpaaW.PrintMore
set_option linter.unusedVariables false
set_option linter.unusedSimpArgs false
def set_domain.f  : Option ((List (S68))) := some (([(⟨0, 55295⟩ : S68), (⟨57344, 1114111⟩ : S68), (⟨1114240, 1114367⟩ : S68)] : List (S68)))
set_option maxHeartbeats 8000000 in
set_option maxRecDepth 100000 in
theorem set_domain.calls  (r : List (S68)) (w : World) (h : set_domain.f  = some r) :
    Calls Try.prog 87 #[] w fun e w' => ∃ v0_ : Value, e = .returned (v0_) ∧ Kd.R k68 68 w' w.heap.size (fun _ => True) v0_ r ∧ Below w.heap.size w w' := by
  have hu68 := Try.underlying68
  have HB := Aside0.mk (Below.refl w.heap.size w)
  have H : (some (([(⟨0, 55295⟩ : S68), (⟨57344, 1114111⟩ : S68), (⟨1114240, 1114367⟩ : S68)] : List (S68)))) = some r := h
  clear h
  obtain ⟨y117, hy117⟩ : ∃ y_ : List (S68), y_ = (([(⟨0, 55295⟩ : S68), (⟨57344, 1114111⟩ : S68), (⟨1114240, 1114367⟩ : S68)] : List (S68))) := ⟨_, rfl⟩
  replace H : (some y117) = some r := by first | (rw [hy117]; with_reducible exact H) | (have H2_ := (Option.bind_some _ _).symm.trans H; rw [hy117]; with_reducible exact H2_) | (have H2_ := (Option.bind_some _ _).symm.trans H; with_reducible exact H2_) | with_reducible exact H | (rw [hy117]; exact H) | exact H
  have Ny117 := Aside0.mk hy117
  clear hy117
  obtain rfl := Option.some.inj H
  go_enter Try.func87, Try.ntmps87
  go_wp2_with (first | ((with_reducible refine gate_dst (N := 4) rfl ?_); refine Kd.R_lit k68 _ 68 ?hg (N := 4) ?hd (xs := ([(⟨0, 55295⟩ : S68), (⟨57344, 1114111⟩ : S68), (⟨1114240, 1114367⟩ : S68)] : List (S68))) (inner := [.int .i64 0, .int .i64 55295, .int .i64 57344, .int .i64 1114111, .int .i64 1114240, .int .i64 1114367]) (ok := fun _ => True) (okp := fun _ => True) ?hr ?hp (fun _ hk => hk) trivial (Below.refl _ _) (Nat.le_refl _) (by simp) ?_; (case hd => rfl); (case hg => rfl); (case hr => first | (go_simp; done) | (go_simp; rfl)); (case hp => exact (Reps.c2 (show Kd.M k68 _ _ _ (⟨0, 55295⟩ : S68) [.int .i64 0, .int .i64 55295] from (k68_mkM _ _ _ (⟨0, 55295⟩ : S68) )) (Reps.c2 (show Kd.M k68 _ _ _ (⟨57344, 1114111⟩ : S68) [.int .i64 57344, .int .i64 1114111] from (k68_mkM _ _ _ (⟨57344, 1114111⟩ : S68) )) (Reps.c2 (show Kd.M k68 _ _ _ (⟨1114240, 1114367⟩ : S68) [.int .i64 1114240, .int .i64 1114367] from (k68_mkM _ _ _ (⟨1114240, 1114367⟩ : S68) )) (Reps.none _ _))))); intro v118 w1 ho2 hb hg_ hnew_; clear hg_ hnew_; (first | rw [← Ny117.out] at ho2 | (simp only [Int.reduceToNat] at ho2; rw [← Ny117.out] at ho2)); have n0_ := Aside0.mk (Kd.R_lower ho2 (below_size (by repeat (first | (with_reducible first | exact HB.out | apply below_alloc | apply pw_below_drewN | apply below_drew1) | exact HB.out)))); have n1_ := Aside0.mk (below_step (by repeat (first | (with_reducible first | exact HB.out | apply below_alloc | apply pw_below_drewN | apply below_drew1) | exact HB.out)) hb); clear HB; have HO119 := n0_; have HB := n1_; clear n0_ n1_; clear hb ho2))
  go_ret
  exact ⟨_, by first | rfl | (simp [errW_none, errW_some] <;> rfl) | (simp [*, errW_none, errW_some] <;> rfl), by (with_reducible repeat (first | apply Kd.R_alloc | apply Kd.R_drewN | apply Kd.R_drew)); exact HO119.out, by repeat (first | (with_reducible first | exact HB.out | apply below_alloc | apply pw_below_drewN | apply below_drew1) | exact HB.out)⟩
end Go.Proofs.Ytonljejhlphgpaa.G

