-- Slimmed by slim.py from the text of this name without 'Kh'.
import Derived.Test.YtalbchgiijoeaaaDoorKhG0
import Derived.Test.YtalbchgiijoeaaaDoorKhG1
namespace Go.Proofs.YtalbchgiijoeaaaDoor.G
open Go.RowKit Go.Proofs.YtalbchgiijoeaaaDoorW.PrintWords Go.Proofs.YtalbchgiijoeaaaDoorW.PrintLast Go.Proofs.YtalbchgiijoeaaaDoorW.PrintMore
attribute [local go_sem] max2_int min2_int max_two min_two max_three min_three max_four min_four
set_option linter.unusedVariables false
set_option linter.unusedSimpArgs false
def utf_Width.j0 : Nat → Int → Bool → Option (Int)
  | 0, _, _ => none
  | k + 1, x0, x3 => if x3 = true then (some 1) else (if x0 < 0 then (some 0) else (if x0 > 1114111 then (some 0) else (if x0 ≥ 55296 then (if x0 ≤ 57343 then (some 0) else ((utf8_RuneLen.f k (wrap32 (x0))).bind fun t101 => (some t101))) else ((utf8_RuneLen.f k (wrap32 (x0))).bind fun t102 => (some t102)))))
def utf_Width.f (k : Nat) (a0 : Int) : Option (Int) := if a0 ≥ 1114240 then (utf_Width.j0 k a0 (decide (a0 ≤ 1114367))) else (utf_Width.j0 k a0 false)
theorem utf_Width.mono_l : ∀ k, (∀ y0 y1, LeO (utf_Width.j0 k y0 y1) (utf_Width.j0 (k + 1) y0 y1))
  | 0 => fun _ _ r h => by simp [utf_Width.j0] at h
  | k + 1 => by
    have ih0 := utf_Width.mono_l k
    · intro y0 y1
      unfold utf_Width.j0
      repeat' first
      | (with_reducible exact ih0 _ _)
      | (with_reducible exact utf8_RuneLen.mono _ _)
      | (with_reducible exact LeO.refl _)
      | (with_reducible exact LeO.none _)
      | (with_reducible refine LeO.ite ?_ ?_)
      | (with_reducible refine LeO.bind ?_ (fun _ => ?_))
      | exact ih0 _ _
      | exact utf8_RuneLen.mono _ _
      | exact LeO.none _
      | refine LeO.ite ?_ ?_
      | refine LeO.bind ?_ (fun _ => ?_)
theorem utf_Width.mono : ∀ a0 k, LeO (utf_Width.f k a0) (utf_Width.f (k + 1) a0) := by
  intro a0 k
  have ih0 := utf_Width.mono_l k
  unfold utf_Width.f
  repeat' first
      | (with_reducible exact ih0 _ _)
      | (with_reducible exact utf8_RuneLen.mono _ _)
      | (with_reducible exact LeO.refl _)
      | (with_reducible exact LeO.none _)
      | (with_reducible refine LeO.ite ?_ ?_)
      | (with_reducible refine LeO.bind ?_ (fun _ => ?_))
      | exact ih0 _ _
      | exact utf8_RuneLen.mono _ _
      | exact LeO.none _
      | refine LeO.ite ?_ ?_
      | refine LeO.bind ?_ (fun _ => ?_)
set_option maxHeartbeats 8000000 in
set_option maxRecDepth 100000 in
theorem utf_Width.calls (k : Nat) (a0 : Int) (r : Int) (w : World) (h : utf_Width.f k a0 = some r) :
    Calls Tryd.prog 14 #[.int .i64 a0] w fun e w' => e = .returned (.int .i64 r) ∧ Drawn0 w w' := by
  have H : (if a0 ≥ 1114240 then (utf_Width.j0 k a0 (decide (a0 ≤ 1114367))) else (utf_Width.j0 k a0 false)) = some r := h
  clear h
  have HC2 := Aside0.mk H
  clear H
  go_enter Tryd.func14, Tryd.ntmps14
  go_upto_region 1 with (fail)
  go_cut [3] (fun v3 wc => ∃ (kq : Nat) (x3_1 : Bool), v3 = .bool x3_1 ∧ Aside0 (utf_Width.j0 kq a0 x3_1 = some r) ∧ Aside0 (kq ≤ k) ∧ Drawn0 w wc)
  case first =>
    have H := HC2.out
    clear HC2
    by_cases c3 : a0 ≥ 1114240
    · rw [if_pos c3] at H
      have c3b0 : decide (1114240 ≤ a0) = true := decide_eq_true c3
      clear c3
      (first | rw [c3b0] | (simp only [i64_w, i32_w]; rw [c3b0]) | skip)
      have H' := Aside0.mk H
      clear H
      go_wp2
      go_meet
      case rel => exact ⟨_, (decide (a0 ≤ 1114367)), (by first | rfl | (simp; done) | (simp [*]; done)), H', ⟨by first | omega | exact Nat.le_refl _⟩, by repeat (first | exact Drawn0.refl _ | apply Drawn0.step)⟩
    · rw [if_neg c3] at H
      have c3b0 : decide (1114240 ≤ a0) = false := decide_eq_false c3
      clear c3
      (first | rw [c3b0] | (simp only [i64_w, i32_w]; rw [c3b0]) | skip)
      have H' := Aside0.mk H
      clear H
      go_wp2
      go_meet
      case rel => exact ⟨_, (false), (by first | rfl | (simp; done) | (simp [*]; done)), H', ⟨by first | omega | exact Nat.le_refl _⟩, by repeat (first | exact Drawn0.refl _ | apply Drawn0.step)⟩
  case rest =>
    clear HC2
    try clear c1
    try clear p2
    try clear c3
    try clear c3b0
    obtain ⟨kq, x3_1, rfl, HA, HJ1, ⟨mc1, rfl⟩⟩ := hcut
    cases kq with
    | zero => exact absurd HA.out (by simp [utf_Width.j0])
    | succ kj1 =>
      have H := HA.out
      clear HA
      simp only [utf_Width.j0] at H
      by_cases c4 : x3_1 = true
      · subst c4
        have H1 : (some 1) = some r := by rw [if_pos rfl] at H; exact H
        clear H
        have H := H1
        clear H1
        obtain rfl := Option.some.inj H
        go_wp2
        go_ret
        exact ⟨by first | rfl | (simp; done) | (simp [*]; done), by repeat (first | exact Drawn0.refl _ | apply Drawn0.step)⟩
      · replace c4 := Bool.eq_false_iff.mpr c4
        subst c4
        have H1 : (if a0 < 0 then (some 0) else (if a0 > 1114111 then (some 0) else (if a0 ≥ 55296 then (if a0 ≤ 57343 then (some 0) else ((utf8_RuneLen.f kj1 (wrap32 (a0))).bind fun t101 => (some t101))) else ((utf8_RuneLen.f kj1 (wrap32 (a0))).bind fun t102 => (some t102))))) = some r := by rw [if_neg (show ¬ (false = true) by decide)] at H; exact H
        clear H
        have H := H1
        clear H1
        by_cases c5 : a0 < 0
        · rw [if_pos c5] at H
          have c5b0 : decide (a0 < 0) = true := decide_eq_true c5
          clear c5
          obtain rfl := Option.some.inj H
          go_wp2
          go_ret
          exact ⟨by first | rfl | (simp; done) | (simp [*]; done), by repeat (first | exact Drawn0.refl _ | apply Drawn0.step)⟩
        · rw [if_neg c5] at H
          have c5b0 : decide (a0 < 0) = false := decide_eq_false c5
          clear c5
          by_cases c6 : a0 > 1114111
          · rw [if_pos c6] at H
            have c6b0 : decide (1114111 < a0) = true := decide_eq_true c6
            clear c6
            obtain rfl := Option.some.inj H
            go_wp2
            go_ret
            exact ⟨by first | rfl | (simp; done) | (simp [*]; done), by repeat (first | exact Drawn0.refl _ | apply Drawn0.step)⟩
          · rw [if_neg c6] at H
            have c6b0 : decide (1114111 < a0) = false := decide_eq_false c6
            clear c6
            by_cases c7 : a0 ≥ 55296
            · rw [if_pos c7] at H
              have c7b0 : decide (55296 ≤ a0) = true := decide_eq_true c7
              clear c7
              by_cases c8 : a0 ≤ 57343
              · rw [if_pos c8] at H
                have c8b0 : decide (a0 ≤ 57343) = true := decide_eq_true c8
                clear c8
                obtain rfl := Option.some.inj H
                go_wp2
                go_ret
                exact ⟨by first | rfl | (simp; done) | (simp [*]; done), by repeat (first | exact Drawn0.refl _ | apply Drawn0.step)⟩
              · rw [if_neg c8] at H
                have c8b0 : decide (a0 ≤ 57343) = false := decide_eq_false c8
                clear c8
                replace H := Option.bind_eq_some_iff.mp H
                obtain ⟨t101, A90, H⟩ := H
                replace H : (some t101) = some r := H
                have A9 := Aside0.mk A90
                clear A90
                obtain rfl := Option.some.inj H
                go_wp2_with (first | ((with_reducible refine gate_callee (f := 38) rfl ?_); refine goesL_ (some 27) rfl rfl Tryd.func38 (by kernel_rfl) rfl #[.int .i32 (wrap32 (a0))] rfl (by (try simp only [List.map_toArray, List.map_cons, List.map_nil]); first | done | rfl | (simp only [List.length_drop, List.length_take]; rfl)) ?_; (with_reducible refine (utf8_RuneLen.calls kj1 (wrap32 (a0)) t101 _ A9.out).mono ?_); rintro e w' ⟨rfl, ⟨nd, rfl⟩⟩; refine ⟨_, rfl, ?_⟩))
                go_ret
                exact ⟨by first | rfl | (simp; done) | (simp [*]; done), by repeat (first | exact Drawn0.refl _ | apply Drawn0.step)⟩
            · rw [if_neg c7] at H
              have c7b0 : decide (55296 ≤ a0) = false := decide_eq_false c7
              clear c7
              replace H := Option.bind_eq_some_iff.mp H
              obtain ⟨t102, A100, H⟩ := H
              replace H : (some t102) = some r := H
              have A10 := Aside0.mk A100
              clear A100
              obtain rfl := Option.some.inj H
              go_wp2_with (first | ((with_reducible refine gate_callee (f := 38) rfl ?_); refine goesL_ (some 27) rfl rfl Tryd.func38 (by kernel_rfl) rfl #[.int .i32 (wrap32 (a0))] rfl (by (try simp only [List.map_toArray, List.map_cons, List.map_nil]); first | done | rfl | (simp only [List.length_drop, List.length_take]; rfl)) ?_; (with_reducible refine (utf8_RuneLen.calls kj1 (wrap32 (a0)) t102 _ A10.out).mono ?_); rintro e w' ⟨rfl, ⟨nd, rfl⟩⟩; refine ⟨_, rfl, ?_⟩))
              go_ret
              exact ⟨by first | rfl | (simp; done) | (simp [*]; done), by repeat (first | exact Drawn0.refl _ | apply Drawn0.step)⟩
end Go.Proofs.YtalbchgiijoeaaaDoor.G

