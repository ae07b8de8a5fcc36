-- Slimmed by slim.py from the text of this name without 'Kc'.
import Derived.Test.YtalbchgiijoeaaaDoorKcG0
import Derived.Test.YtalbchgiijoeaaaDoorKcG7
import Derived.Test.YtalbchgiijoeaaaDoorKcG15
import Derived.Test.YtalbchgiijoeaaaDoorKcG23
namespace Go.Proofs.YtalbchgiijoeaaaDoor.G
open Go.RowKit Go.Proofs.YtalbchgiijoeaaaDoorW.PrintWords Go.Proofs.YtalbchgiijoeaaaDoorW.PrintLast Go.Proofs.YtalbchgiijoeaaaDoorW.PrintMore
attribute [local go_sem] max2_int min2_int max_two min_two max_three min_three max_four min_four
set_option linter.unusedVariables false
set_option linter.unusedSimpArgs false
def respelllaw01_UtfBorders.f (k : Nat) (a0 : ByteArray) (a1 : Int) : Option (Bool) := (respelllaw01_shown.f).bind fun t180 => (if t180 = true then ((utf_Border.f k a0 a1).bind fun t181 => ((respellref01_Border.f k a0 a1).bind fun t182 => (some (t181 == t182)))) else (some false))
theorem respelllaw01_UtfBorders.mono : ∀ a0 a1 k, LeO (respelllaw01_UtfBorders.f k a0 a1) (respelllaw01_UtfBorders.f (k + 1) a0 a1) := by
  intro a0 a1 k
  unfold respelllaw01_UtfBorders.f
  repeat' first
      | (with_reducible exact respellref01_Border.mono _ _ _)
      | (with_reducible exact utf_Border.mono _ _ _)
      | (with_reducible exact LeO.refl _)
      | (with_reducible exact LeO.none _)
      | (with_reducible refine LeO.ite ?_ ?_)
      | (with_reducible refine LeO.bind ?_ (fun _ => ?_))
      | exact respellref01_Border.mono _ _ _
      | exact utf_Border.mono _ _ _
      | exact LeO.none _
      | refine LeO.ite ?_ ?_
      | refine LeO.bind ?_ (fun _ => ?_)
set_option maxHeartbeats 8000000 in
set_option maxRecDepth 100000 in
theorem respelllaw01_UtfBorders.calls (k : Nat) (a0 : ByteArray) (a1 : Int) (r : Bool) (w : World) (HT : Aside0 (Tabs w)) (h : respelllaw01_UtfBorders.f k a0 a1 = some r) :
    Calls Tryd.prog 4 #[.string a0, .int .i64 a1] w fun e w' => e = .returned (.bool r) ∧ Below w.heap.size w w' := by
  have HB := Aside0.mk (Below.refl w.heap.size w)
  have H : ((respelllaw01_shown.f).bind fun t180 => (if t180 = true then ((utf_Border.f k a0 a1).bind fun t181 => ((respellref01_Border.f k a0 a1).bind fun t182 => (some (t181 == t182)))) else (some false))) = some r := h
  clear h
  replace H := Option.bind_eq_some_iff.mp H
  obtain ⟨t180, A30, H⟩ := H
  replace H : (if t180 = true then ((utf_Border.f k a0 a1).bind fun t181 => ((respellref01_Border.f k a0 a1).bind fun t182 => (some (t181 == t182)))) else (some false)) = some r := H
  have A3 := Aside0.mk A30
  clear A30
  by_cases c4 : t180 = true
  · subst c4
    have H1 : ((utf_Border.f k a0 a1).bind fun t181 => ((respellref01_Border.f k a0 a1).bind fun t182 => (some (t181 == t182)))) = some r := by rw [if_pos rfl] at H; exact H
    clear H
    have H := H1
    clear H1
    replace H := Option.bind_eq_some_iff.mp H
    obtain ⟨t181, A50, H⟩ := H
    replace H : ((respellref01_Border.f k a0 a1).bind fun t182 => (some (t181 == t182))) = some r := H
    have A5 := Aside0.mk A50
    clear A50
    replace H := Option.bind_eq_some_iff.mp H
    obtain ⟨t182, A60, H⟩ := H
    replace H : (some (t181 == t182)) = some r := H
    have A6 := Aside0.mk A60
    clear A60
    obtain rfl := Option.some.inj H
    go_enter Tryd.func4, Tryd.ntmps4
    go_wp2_with (first | ((with_reducible refine gate_callee (f := 12) rfl ?_); refine goesL_ (some 6) rfl rfl Tryd.func12 (by kernel_rfl) rfl #[] rfl (by (try simp only [List.map_toArray, List.map_cons, List.map_nil]); first | done | rfl | (simp only [List.length_drop, List.length_take]; rfl)) ?_; (with_reducible refine (respelllaw01_shown.calls (HT := (by first | exact HT | exact ⟨HT.out.below (by repeat (first | (with_reducible first | exact HB.out | apply below_alloc | apply pw_below_drewN | apply below_drew1) | exact HB.out | exact Below.refl _ _ | apply Drawn0.below))⟩))  true _ A3.out).mono ?_); rintro e w7 ⟨rfl, hb⟩; refine ⟨_, rfl, ?_⟩; have n0_ := Aside0.mk (below_step (by repeat (first | (with_reducible first | exact HB.out | apply below_alloc | apply pw_below_drewN | apply below_drew1) | exact HB.out)) hb); clear HB; have HB := n0_; clear n0_; (try clear hb); (try clear hb2); (try clear hk); (try clear hi)) | (go_at_call 18; (with_reducible refine (utf_Border.calls (HT := (by first | exact HT | exact ⟨HT.out.below (by repeat (first | (with_reducible first | exact HB.out | apply below_alloc | apply pw_below_drewN | apply below_drew1) | exact HB.out | exact Below.refl _ _ | apply Drawn0.below))⟩)) k a0 a1 t181 _ A5.out).mono ?_); rintro e w8 ⟨rfl, hb⟩; have n0_ := Aside0.mk (below_step (by repeat (first | (with_reducible first | exact HB.out | apply below_alloc | apply pw_below_drewN | apply below_drew1) | exact HB.out)) hb); clear HB; have HB := n0_; clear n0_; (try clear hb); (try clear hb2); (try clear hk); (try clear hi)) | (go_at_call 19; (with_reducible refine (respellref01_Border.calls k a0 a1 t182 _ A6.out).mono ?_); rintro e w9 ⟨rfl, hb⟩; have n0_ := Aside0.mk (below_step (by repeat (first | (with_reducible first | exact HB.out | apply below_alloc | apply pw_below_drewN | apply below_drew1) | exact HB.out)) hb); clear HB; have HB := n0_; clear n0_; (try clear hb); (try clear hb2); (try clear hk); (try clear hi)))
    go_ret
    exact ⟨by first | rfl | (simp [errW_none, errW_some] <;> rfl) | (simp [*, errW_none, errW_some] <;> rfl), by repeat (first | (with_reducible first | exact HB.out | apply below_alloc | apply pw_below_drewN | apply below_drew1) | exact HB.out)⟩
  · replace c4 := Bool.eq_false_iff.mpr c4
    subst c4
    have H1 : (some false) = some r := by rw [if_neg (show ¬ (false = true) by decide)] at H; exact H
    clear H
    have H := H1
    clear H1
    obtain rfl := Option.some.inj H
    go_enter Tryd.func4, Tryd.ntmps4
    go_wp2_with (first | ((with_reducible refine gate_callee (f := 12) rfl ?_); refine goesL_ (some 6) rfl rfl Tryd.func12 (by kernel_rfl) rfl #[] rfl (by (try simp only [List.map_toArray, List.map_cons, List.map_nil]); first | done | rfl | (simp only [List.length_drop, List.length_take]; rfl)) ?_; (with_reducible refine (respelllaw01_shown.calls (HT := (by first | exact HT | exact ⟨HT.out.below (by repeat (first | (with_reducible first | exact HB.out | apply below_alloc | apply pw_below_drewN | apply below_drew1) | exact HB.out | exact Below.refl _ _ | apply Drawn0.below))⟩))  false _ A3.out).mono ?_); rintro e w10 ⟨rfl, hb⟩; refine ⟨_, rfl, ?_⟩; have n0_ := Aside0.mk (below_step (by repeat (first | (with_reducible first | exact HB.out | apply below_alloc | apply pw_below_drewN | apply below_drew1) | exact HB.out)) hb); clear HB; have HB := n0_; clear n0_; (try clear hb); (try clear hb2); (try clear hk); (try clear hi)))
    go_ret
    exact ⟨by first | rfl | (simp [errW_none, errW_some] <;> rfl) | (simp [*, errW_none, errW_some] <;> rfl), by repeat (first | (with_reducible first | exact HB.out | apply below_alloc | apply pw_below_drewN | apply below_drew1) | exact HB.out)⟩
end Go.Proofs.YtalbchgiijoeaaaDoor.G

