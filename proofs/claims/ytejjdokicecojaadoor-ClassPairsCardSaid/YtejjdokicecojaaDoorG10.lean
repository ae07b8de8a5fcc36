-- PRINTED by print.py (a twelfth state) out of the translation. Not trusted: Lean checks it.
import Derived.Test.YtejjdokicecojaaDoorG0
namespace Go.Proofs.YtejjdokicecojaaDoor.G
open Go.RowKit Go.Proofs.YtejjdokicecojaaDoorW.PrintWords Go.Proofs.YtejjdokicecojaaDoorW.PrintLast Go.Proofs.YtejjdokicecojaaDoorW.PrintMore
attribute [local go_sem] max2_int min2_int max_two min_two max_three min_three max_four min_four   -- for this text's walks alone
set_option linter.unusedVariables false
set_option linter.unusedSimpArgs false

/-! ### respellref02_domain: function 20 -/
def respellref02_domain.f  : Option ((List (S31))) := some (([(⟨0, 55295⟩ : S31), (⟨57344, 1114111⟩ : S31), (⟨1114240, 1114367⟩ : S31)] : List (S31)))
set_option maxHeartbeats 8000000 in
set_option maxRecDepth 100000 in
theorem respellref02_domain.calls  (r : List (S31)) (w : World) (h : respellref02_domain.f  = some r) :
    Calls Tryd.prog 20 #[] w fun e w' => ∃ v0_ : Value, e = .returned (v0_) ∧ Kd.R k31 31 w' w.heap.size (fun _ => True) v0_ r ∧ Below w.heap.size w w' := by
  have hu31 := Tryd.underlying31
  have HB := Aside0.mk (Below.refl w.heap.size w)
  have H : (some (([(⟨0, 55295⟩ : S31), (⟨57344, 1114111⟩ : S31), (⟨1114240, 1114367⟩ : S31)] : List (S31)))) = some r := h
  clear h
  obtain ⟨y123, hy123⟩ : ∃ y_ : List (S31), y_ = (([(⟨0, 55295⟩ : S31), (⟨57344, 1114111⟩ : S31), (⟨1114240, 1114367⟩ : S31)] : List (S31))) := ⟨_, rfl⟩
  replace H : (some y123) = some r := by first | (rw [hy123]; with_reducible exact H) | (have H2_ := (Option.bind_some _ _).symm.trans H; rw [hy123]; with_reducible exact H2_) | (have H2_ := (Option.bind_some _ _).symm.trans H; with_reducible exact H2_) | with_reducible exact H | (rw [hy123]; exact H) | exact H
  have Ny123 := Aside0.mk hy123
  clear hy123
  obtain rfl := Option.some.inj H
  go_enter Tryd.func20, Tryd.ntmps20
  go_wp2_with (first | ((with_reducible refine gate_dst (N := 4) rfl ?_); refine Kd.R_lit k31 _ 31 ?hg (N := 4) ?hd (xs := ([(⟨0, 55295⟩ : S31), (⟨57344, 1114111⟩ : S31), (⟨1114240, 1114367⟩ : S31)] : List (S31))) (inner := [.int .i64 0, .int .i64 55295, .int .i64 57344, .int .i64 1114111, .int .i64 1114240, .int .i64 1114367]) (ok := fun _ => True) (okp := fun _ => True) ?hr ?hp (fun _ hk => hk) trivial (Below.refl _ _) (Nat.le_refl _) (by simp) ?_; (case hd => rfl); (case hg => rfl); (case hr => first | (go_simp; done) | (go_simp; rfl)); (case hp => exact (Reps.c2 (show Kd.M k31 _ _ _ (⟨0, 55295⟩ : S31) [.int .i64 0, .int .i64 55295] from (k31_mkM _ _ _ (⟨0, 55295⟩ : S31) )) (Reps.c2 (show Kd.M k31 _ _ _ (⟨57344, 1114111⟩ : S31) [.int .i64 57344, .int .i64 1114111] from (k31_mkM _ _ _ (⟨57344, 1114111⟩ : S31) )) (Reps.c2 (show Kd.M k31 _ _ _ (⟨1114240, 1114367⟩ : S31) [.int .i64 1114240, .int .i64 1114367] from (k31_mkM _ _ _ (⟨1114240, 1114367⟩ : S31) )) (Reps.none _ _))))); intro v124 w1 ho2 hb hg_ hnew_; clear hg_ hnew_; (first | rw [← Ny123.out] at ho2 | (simp only [Int.reduceToNat] at ho2; rw [← Ny123.out] at ho2)); have n0_ := Aside0.mk (Kd.R_lower ho2 (below_size (by repeat (first | (with_reducible first | exact HB.out | apply below_alloc | apply pw_below_drewN | apply below_drew1) | exact HB.out)))); have n1_ := Aside0.mk (below_step (by repeat (first | (with_reducible first | exact HB.out | apply below_alloc | apply pw_below_drewN | apply below_drew1) | exact HB.out)) hb); clear HB; have HO125 := n0_; have HB := n1_; clear n0_ n1_; clear hb ho2))
  go_ret
  exact ⟨_, by first | rfl | (simp [errW_none, errW_some] <;> rfl) | (simp [*, errW_none, errW_some] <;> rfl), by (with_reducible repeat (first | apply Kd.R_alloc | apply Kd.R_drewN | apply Kd.R_drew)); exact HO125.out, by repeat (first | (with_reducible first | exact HB.out | apply below_alloc | apply pw_below_drewN | apply below_drew1) | exact HB.out)⟩

end Go.Proofs.YtejjdokicecojaaDoor.G
