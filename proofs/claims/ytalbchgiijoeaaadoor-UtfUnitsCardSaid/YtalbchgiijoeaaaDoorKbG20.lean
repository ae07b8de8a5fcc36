-- Slimmed by slim.py from the text of this name without 'Kb'.
import Derived.Test.YtalbchgiijoeaaaDoorKbG0
import Derived.Test.YtalbchgiijoeaaaDoorKbG2
import Derived.Test.YtalbchgiijoeaaaDoorKbG3
import Derived.Test.YtalbchgiijoeaaaDoorKbG6
import Derived.Test.YtalbchgiijoeaaaDoorKbG15
import Derived.Test.YtalbchgiijoeaaaDoorKbG17
import Derived.Test.YtalbchgiijoeaaaDoorKbG19
namespace Go.Proofs.YtalbchgiijoeaaaDoor.G
open Go.RowKit Go.Proofs.YtalbchgiijoeaaaDoorW.PrintWords Go.Proofs.YtalbchgiijoeaaaDoorW.PrintLast Go.Proofs.YtalbchgiijoeaaaDoorW.PrintMore
attribute [local go_sem] max2_int min2_int max_two min_two max_three min_three max_four min_four
set_option linter.unusedVariables false
set_option linter.unusedSimpArgs false
def respelllaw01_UtfUnits.j0 : Nat → Int → Bool → ByteArray → Int → Bool → Option (Bool)
  | 0, _, _, _, _, _ => none
  | k + 1, x0, x3, x4, x5, x30 => if x30 = true then (some false) else ((utf_First.f k x4).bind fun bt156 => (if x5 > 0 then (if bt156.1 = x0 then (if bt156.2 = x5 then (if x3 = true then (some true) else (some false)) else (some false)) else (some false)) else (if x3 = true then (if bt156.1 = 0 then (some (bt156.2 == 0)) else (some false)) else (some false))))
def respelllaw01_UtfUnits.f (k : Nat) (a0 : Int) : Option (Bool) := (respelllaw01_shown.f).bind fun t151 => (if t151 = true then ((utf_Put.f k a0).bind fun t152 => ((utf_Width.f k a0).bind fun t153 => ((respellref01_Width.f k a0).bind fun t154 => (if t153 = t154 then ((respellref01_Put.f k a0).bind fun t155 => (if t152.toList = t155.toList then (respelllaw01_UtfUnits.j0 k a0 t151 t152 t153 ((t152.size : Int) != t153)) else (respelllaw01_UtfUnits.j0 k a0 t151 t152 t153 true))) else (respelllaw01_UtfUnits.j0 k a0 t151 t152 t153 true))))) else (some false))
theorem respelllaw01_UtfUnits.mono_l : ∀ k, (∀ y0 y1 y2 y3 y4, LeO (respelllaw01_UtfUnits.j0 k y0 y1 y2 y3 y4) (respelllaw01_UtfUnits.j0 (k + 1) y0 y1 y2 y3 y4))
  | 0 => fun _ _ _ _ _ r h => by simp [respelllaw01_UtfUnits.j0] at h
  | k + 1 => by
    have ih0 := respelllaw01_UtfUnits.mono_l k
    · intro y0 y1 y2 y3 y4
      unfold respelllaw01_UtfUnits.j0
      repeat' first
      | (with_reducible exact ih0 _ _ _ _ _)
      | (with_reducible exact respellref01_Put.mono _ _)
      | (with_reducible exact respellref01_Width.mono _ _)
      | (with_reducible exact utf_First.mono _ _)
      | (with_reducible exact utf_Put.mono _ _)
      | (with_reducible exact utf_Width.mono _ _)
      | (with_reducible exact LeO.refl _)
      | (with_reducible exact LeO.none _)
      | (with_reducible refine LeO.ite ?_ ?_)
      | (with_reducible refine LeO.bind ?_ (fun _ => ?_))
      | exact ih0 _ _ _ _ _
      | exact respellref01_Put.mono _ _
      | exact respellref01_Width.mono _ _
      | exact utf_First.mono _ _
      | exact utf_Put.mono _ _
      | exact utf_Width.mono _ _
      | exact LeO.none _
      | refine LeO.ite ?_ ?_
      | refine LeO.bind ?_ (fun _ => ?_)
theorem respelllaw01_UtfUnits.mono : ∀ a0 k, LeO (respelllaw01_UtfUnits.f k a0) (respelllaw01_UtfUnits.f (k + 1) a0) := by
  intro a0 k
  have ih0 := respelllaw01_UtfUnits.mono_l k
  unfold respelllaw01_UtfUnits.f
  repeat' first
      | (with_reducible exact ih0 _ _ _ _ _)
      | (with_reducible exact respellref01_Put.mono _ _)
      | (with_reducible exact respellref01_Width.mono _ _)
      | (with_reducible exact utf_First.mono _ _)
      | (with_reducible exact utf_Put.mono _ _)
      | (with_reducible exact utf_Width.mono _ _)
      | (with_reducible exact LeO.refl _)
      | (with_reducible exact LeO.none _)
      | (with_reducible refine LeO.ite ?_ ?_)
      | (with_reducible refine LeO.bind ?_ (fun _ => ?_))
      | exact ih0 _ _ _ _ _
      | exact respellref01_Put.mono _ _
      | exact respellref01_Width.mono _ _
      | exact utf_First.mono _ _
      | exact utf_Put.mono _ _
      | exact utf_Width.mono _ _
      | exact LeO.none _
      | refine LeO.ite ?_ ?_
      | refine LeO.bind ?_ (fun _ => ?_)
set_option maxHeartbeats 8000000 in
set_option maxRecDepth 100000 in
theorem respelllaw01_UtfUnits.calls (k : Nat) (a0 : Int) (r : Bool) (w : World) (HT : Aside0 (Tabs w)) (h : respelllaw01_UtfUnits.f k a0 = some r) :
    Calls Tryd.prog 3 #[.int .i64 a0] w fun e w' => e = .returned (.bool r) ∧ Below w.heap.size w w' := by
  have HB := Aside0.mk (Below.refl w.heap.size w)
  have H : ((respelllaw01_shown.f).bind fun t151 => (if t151 = true then ((utf_Put.f k a0).bind fun t152 => ((utf_Width.f k a0).bind fun t153 => ((respellref01_Width.f k a0).bind fun t154 => (if t153 = t154 then ((respellref01_Put.f k a0).bind fun t155 => (if t152.toList = t155.toList then (respelllaw01_UtfUnits.j0 k a0 t151 t152 t153 ((t152.size : Int) != t153)) else (respelllaw01_UtfUnits.j0 k a0 t151 t152 t153 true))) else (respelllaw01_UtfUnits.j0 k a0 t151 t152 t153 true))))) else (some false))) = some r := h
  clear h
  replace H := Option.bind_eq_some_iff.mp H
  obtain ⟨t151, A20, H⟩ := H
  replace H : (if t151 = true then ((utf_Put.f k a0).bind fun t152 => ((utf_Width.f k a0).bind fun t153 => ((respellref01_Width.f k a0).bind fun t154 => (if t153 = t154 then ((respellref01_Put.f k a0).bind fun t155 => (if t152.toList = t155.toList then (respelllaw01_UtfUnits.j0 k a0 t151 t152 t153 ((t152.size : Int) != t153)) else (respelllaw01_UtfUnits.j0 k a0 t151 t152 t153 true))) else (respelllaw01_UtfUnits.j0 k a0 t151 t152 t153 true))))) else (some false)) = some r := H
  have A2 := Aside0.mk A20
  clear A20
  by_cases c3 : t151 = true
  · subst c3
    have H1 : ((utf_Put.f k a0).bind fun t152 => ((utf_Width.f k a0).bind fun t153 => ((respellref01_Width.f k a0).bind fun t154 => (if t153 = t154 then ((respellref01_Put.f k a0).bind fun t155 => (if t152.toList = t155.toList then (respelllaw01_UtfUnits.j0 k a0 true t152 t153 ((t152.size : Int) != t153)) else (respelllaw01_UtfUnits.j0 k a0 true t152 t153 true))) else (respelllaw01_UtfUnits.j0 k a0 true t152 t153 true))))) = some r := by rw [if_pos rfl] at H; exact H
    clear H
    have H := H1
    clear H1
    replace H := Option.bind_eq_some_iff.mp H
    obtain ⟨t152, A40, H⟩ := H
    replace H : ((utf_Width.f k a0).bind fun t153 => ((respellref01_Width.f k a0).bind fun t154 => (if t153 = t154 then ((respellref01_Put.f k a0).bind fun t155 => (if t152.toList = t155.toList then (respelllaw01_UtfUnits.j0 k a0 true t152 t153 ((t152.size : Int) != t153)) else (respelllaw01_UtfUnits.j0 k a0 true t152 t153 true))) else (respelllaw01_UtfUnits.j0 k a0 true t152 t153 true)))) = some r := H
    have A4 := Aside0.mk A40
    clear A40
    replace H := Option.bind_eq_some_iff.mp H
    obtain ⟨t153, A50, H⟩ := H
    replace H : ((respellref01_Width.f k a0).bind fun t154 => (if t153 = t154 then ((respellref01_Put.f k a0).bind fun t155 => (if t152.toList = t155.toList then (respelllaw01_UtfUnits.j0 k a0 true t152 t153 ((t152.size : Int) != t153)) else (respelllaw01_UtfUnits.j0 k a0 true t152 t153 true))) else (respelllaw01_UtfUnits.j0 k a0 true t152 t153 true))) = some r := H
    have A5 := Aside0.mk A50
    clear A50
    have HC6 := Aside0.mk H
    clear H
    go_enter Tryd.func3, Tryd.ntmps3
    go_upto_region 6 with (first | ((with_reducible refine gate_callee (f := 12) rfl ?_); refine goesL_ (some 8) rfl rfl Tryd.func12 (by kernel_rfl) rfl #[] rfl (by (try simp only [List.map_toArray, List.map_cons, List.map_nil]); first | done | rfl | (simp only [List.length_drop, List.length_take]; rfl)) ?_; (with_reducible refine (respelllaw01_shown.calls (HT := (by first | exact HT | exact ⟨HT.out.below (by repeat (first | (with_reducible first | exact HB.out | apply below_alloc | apply pw_below_drewN | apply below_drew1) | exact HB.out | exact Below.refl _ _ | apply Drawn0.below))⟩))  true _ A2.out).mono ?_); rintro e w7 ⟨rfl, hb⟩; refine ⟨_, rfl, ?_⟩; have n0_ := Aside0.mk (below_step (by repeat (first | (with_reducible first | exact HB.out | apply below_alloc | apply pw_below_drewN | apply below_drew1) | exact HB.out)) hb); clear HB; have HB := n0_; clear n0_; (try clear hb); (try clear hb2); (try clear hk); (try clear hi)) | ((with_reducible refine gate_callee (f := 13) rfl ?_); refine goesL_ (some 12) rfl rfl Tryd.func13 (by kernel_rfl) rfl #[.int .i64 a0] rfl (by (try simp only [List.map_toArray, List.map_cons, List.map_nil]); first | done | rfl | (simp only [List.length_drop, List.length_take]; rfl)) ?_; (with_reducible refine (utf_Put.calls k a0 t152 _ A4.out).mono ?_); rintro e w8 ⟨rfl, hb⟩; refine ⟨_, rfl, ?_⟩; have n0_ := Aside0.mk (below_step (by repeat (first | (with_reducible first | exact HB.out | apply below_alloc | apply pw_below_drewN | apply below_drew1) | exact HB.out)) hb); clear HB; have HB := n0_; clear n0_; (try clear hb); (try clear hb2); (try clear hk); (try clear hi)) | ((with_reducible refine gate_callee (f := 14) rfl ?_); refine goesL_ (some 14) rfl rfl Tryd.func14 (by kernel_rfl) rfl #[.int .i64 a0] rfl (by (try simp only [List.map_toArray, List.map_cons, List.map_nil]); first | done | rfl | (simp only [List.length_drop, List.length_take]; rfl)) ?_; (with_reducible refine (utf_Width.calls k a0 t153 _ A5.out).mono ?_); rintro e w' ⟨rfl, ⟨nd, rfl⟩⟩; refine ⟨_, rfl, ?_⟩))
    (try simp only [Act.put, List.setIfInBounds_toArray, List.set_cons_zero, List.set_cons_succ])
    go_cut [30] (fun v30 wc => ∃ (kq : Nat) (x30_5 : Bool), v30 = .bool x30_5 ∧ Aside0 (respelllaw01_UtfUnits.j0 kq a0 true t152 t153 x30_5 = some r) ∧ Aside0 (kq ≤ k) ∧ Aside0 (Below w.heap.size w wc))
    case first =>
      have H := HC6.out
      clear HC6
      replace H := Option.bind_eq_some_iff.mp H
      obtain ⟨t154, A90, H⟩ := H
      replace H : (if t153 = t154 then ((respellref01_Put.f k a0).bind fun t155 => (if t152.toList = t155.toList then (respelllaw01_UtfUnits.j0 k a0 true t152 t153 ((t152.size : Int) != t153)) else (respelllaw01_UtfUnits.j0 k a0 true t152 t153 true))) else (respelllaw01_UtfUnits.j0 k a0 true t152 t153 true)) = some r := H
      have A9 := Aside0.mk A90
      clear A90
      by_cases c10 : t153 = t154
      · rw [if_pos c10] at H
        have c10b0 : (t153 == t154) = true := beq_iff_eq.mpr c10
        have c10b1 : (t153 != t154) = false := bne_eq_false_iff_eq.mpr c10
        clear c10
        (first | rw [c10b0] | (simp only [i64_w, i32_w]; rw [c10b0]) | skip)
        replace H := Option.bind_eq_some_iff.mp H
        obtain ⟨t155, A110, H⟩ := H
        replace H : (if t152.toList = t155.toList then (respelllaw01_UtfUnits.j0 k a0 true t152 t153 ((t152.size : Int) != t153)) else (respelllaw01_UtfUnits.j0 k a0 true t152 t153 true)) = some r := H
        have A11 := Aside0.mk A110
        clear A110
        by_cases c12 : t152.toList = t155.toList
        · rw [if_pos c12] at H
          have c12b0 : (t152.toList == t155.toList) = true := beq_iff_eq.mpr c12
          have c12b1 : (t152.toList != t155.toList) = false := bne_eq_false_iff_eq.mpr c12
          clear c12
          have H' := Aside0.mk H
          clear H
          go_wp2_with (first | ((with_reducible refine gate_callee (f := 15) rfl ?_); refine goesL_ (some 17) rfl rfl Tryd.func15 (by kernel_rfl) rfl #[.int .i64 a0] rfl (by (try simp only [List.map_toArray, List.map_cons, List.map_nil]); first | done | rfl | (simp only [List.length_drop, List.length_take]; rfl)) ?_; (with_reducible refine (respellref01_Width.calls k a0 t154 _ A9.out).mono ?_); rintro e w' ⟨rfl, ⟨nd, rfl⟩⟩; refine ⟨_, rfl, ?_⟩) | (go_at_call 16; (with_reducible refine (respellref01_Put.calls k a0 t155 _ A11.out).mono ?_); rintro e w13 ⟨rfl, hb⟩; have n0_ := Aside0.mk (below_step (by repeat (first | (with_reducible first | exact HB.out | apply below_alloc | apply pw_below_drewN | apply below_drew1) | exact HB.out)) hb); clear HB; have HB := n0_; clear n0_; (try clear hb); (try clear hb2); (try clear hk); (try clear hi)))
          go_meet
          case rel => exact ⟨_, (((t152.size : Int) != t153)), (by first | rfl | (simp; done) | (simp [*]; done)), H', ⟨by first | omega | exact Nat.le_refl _⟩, ⟨by repeat (first | (with_reducible first | exact HB.out | apply below_alloc | apply pw_below_drewN | apply below_drew1) | exact HB.out)⟩⟩
        · rw [if_neg c12] at H
          have c12b0 : (t152.toList == t155.toList) = false := beq_eq_false_iff_ne.mpr c12
          have c12b1 : (t152.toList != t155.toList) = true := bne_iff_ne.mpr c12
          have H' := Aside0.mk H
          clear H
          go_wp2_with (first | ((with_reducible refine gate_callee (f := 15) rfl ?_); refine goesL_ (some 17) rfl rfl Tryd.func15 (by kernel_rfl) rfl #[.int .i64 a0] rfl (by (try simp only [List.map_toArray, List.map_cons, List.map_nil]); first | done | rfl | (simp only [List.length_drop, List.length_take]; rfl)) ?_; (with_reducible refine (respellref01_Width.calls k a0 t154 _ A9.out).mono ?_); rintro e w' ⟨rfl, ⟨nd, rfl⟩⟩; refine ⟨_, rfl, ?_⟩) | (go_at_call 16; (with_reducible refine (respellref01_Put.calls k a0 t155 _ A11.out).mono ?_); rintro e w14 ⟨rfl, hb⟩; have n0_ := Aside0.mk (below_step (by repeat (first | (with_reducible first | exact HB.out | apply below_alloc | apply pw_below_drewN | apply below_drew1) | exact HB.out)) hb); clear HB; have HB := n0_; clear n0_; (try clear hb); (try clear hb2); (try clear hk); (try clear hi)))
          go_meet
          case rel => exact ⟨_, (true), (by first | rfl | (simp; done) | (simp [*]; done)), H', ⟨by first | omega | exact Nat.le_refl _⟩, ⟨by repeat (first | (with_reducible first | exact HB.out | apply below_alloc | apply pw_below_drewN | apply below_drew1) | exact HB.out)⟩⟩
      · rw [if_neg c10] at H
        have c10b0 : (t153 == t154) = false := beq_eq_false_iff_ne.mpr c10
        have c10b1 : (t153 != t154) = true := bne_iff_ne.mpr c10
        (first | rw [c10b0] | (simp only [i64_w, i32_w]; rw [c10b0]) | skip)
        have H' := Aside0.mk H
        clear H
        go_wp2_with (first | ((with_reducible refine gate_callee (f := 15) rfl ?_); refine goesL_ (some 17) rfl rfl Tryd.func15 (by kernel_rfl) rfl #[.int .i64 a0] rfl (by (try simp only [List.map_toArray, List.map_cons, List.map_nil]); first | done | rfl | (simp only [List.length_drop, List.length_take]; rfl)) ?_; (with_reducible refine (respellref01_Width.calls k a0 t154 _ A9.out).mono ?_); rintro e w' ⟨rfl, ⟨nd, rfl⟩⟩; refine ⟨_, rfl, ?_⟩))
        go_meet
        case rel => exact ⟨_, (true), (by first | rfl | (simp; done) | (simp [*]; done)), H', ⟨by first | omega | exact Nat.le_refl _⟩, ⟨by repeat (first | (with_reducible first | exact HB.out | apply below_alloc | apply pw_below_drewN | apply below_drew1) | exact HB.out)⟩⟩
    case rest =>
      clear HC6
      try clear c1
      try clear p2
      try clear c3
      try clear c10
      try clear c10b0
      try clear c10b1
      try clear c12
      try clear c12b0
      try clear c12b1
      try clear c13
      try clear c14
      obtain ⟨kq, x30_5, rfl, HA, HJ5, HB⟩ := hcut
      cases kq with
      | zero => exact absurd HA.out (by simp [respelllaw01_UtfUnits.j0])
      | succ kj5 =>
        have H := HA.out
        clear HA
        simp only [respelllaw01_UtfUnits.j0] at H
        by_cases c15 : x30_5 = true
        · subst c15
          have H1 : (some false) = some r := by rw [if_pos rfl] at H; exact H
          clear H
          have H := H1
          clear H1
          obtain rfl := Option.some.inj H
          go_wp2
          go_ret
          exact ⟨by first | rfl | (simp [errW_none, errW_some] <;> rfl) | (simp [*, errW_none, errW_some] <;> rfl), by repeat (first | (with_reducible first | exact HB.out | apply below_alloc | apply pw_below_drewN | apply below_drew1) | exact HB.out)⟩
        · replace c15 := Bool.eq_false_iff.mpr c15
          subst c15
          have H1 : ((utf_First.f kj5 t152).bind fun bt156 => (if t153 > 0 then (if bt156.1 = a0 then (if bt156.2 = t153 then (if true = true then (some true) else (some false)) else (some false)) else (some false)) else (if true = true then (if bt156.1 = 0 then (some (bt156.2 == 0)) else (some false)) else (some false)))) = some r := by rw [if_neg (show ¬ (false = true) by decide)] at H; exact H
          clear H
          have H := H1
          clear H1
          replace H := Option.bind_eq_some_iff.mp H
          obtain ⟨⟨t156, t157⟩, A160, H⟩ := H
          replace H : (if t153 > 0 then (if t156 = a0 then (if t157 = t153 then (if true = true then (some true) else (some false)) else (some false)) else (some false)) else (if true = true then (if t156 = 0 then (some (t157 == 0)) else (some false)) else (some false))) = some r := H
          have A16 := Aside0.mk A160
          clear A160
          by_cases c17 : t153 > 0
          · rw [if_pos c17] at H
            have c17b0 : decide (0 < t153) = true := decide_eq_true c17
            clear c17
            by_cases c18 : t156 = a0
            · rw [if_pos c18] at H
              have c18b0 : (t156 == a0) = true := beq_iff_eq.mpr c18
              have c18b1 : (t156 != a0) = false := bne_eq_false_iff_eq.mpr c18
              clear c18
              by_cases c19 : t157 = t153
              · rw [if_pos c19] at H
                have c19b0 : (t157 == t153) = true := beq_iff_eq.mpr c19
                have c19b1 : (t157 != t153) = false := bne_eq_false_iff_eq.mpr c19
                clear c19
                by_cases c20 : true = true
                · clear c20
                  have H1 : (some true) = some r := by rw [if_pos rfl] at H; exact H
                  clear H
                  have H := H1
                  clear H1
                  obtain rfl := Option.some.inj H
                  go_wp2_with (first | ((with_reducible refine gate_callee (f := 17) rfl ?_); refine goesL_ (some 33) rfl rfl Tryd.func17 (by kernel_rfl) rfl #[.string t152] rfl (by (try simp only [List.map_toArray, List.map_cons, List.map_nil]); first | done | rfl | (simp only [List.length_drop, List.length_take]; rfl)) ?_; (with_reducible refine (utf_First.calls (HT := (by first | exact HT | exact ⟨HT.out.below (by repeat (first | (with_reducible first | exact HB.out | apply below_alloc | apply pw_below_drewN | apply below_drew1) | exact HB.out | exact Below.refl _ _ | apply Drawn0.below))⟩)) kj5 t152 t156 t157 _ A16.out).mono ?_); rintro e w21 ⟨rfl, hb⟩; refine ⟨_, rfl, ?_⟩; have n0_ := Aside0.mk (below_step (by repeat (first | (with_reducible first | exact HB.out | apply below_alloc | apply pw_below_drewN | apply below_drew1) | exact HB.out)) hb); clear HB; have HB := n0_; clear n0_; (try clear hb); (try clear hb2); (try clear hk); (try clear hi)))
                  go_ret
                  exact ⟨by first | rfl | (simp [errW_none, errW_some] <;> rfl) | (simp [*, errW_none, errW_some] <;> rfl), by repeat (first | (with_reducible first | exact HB.out | apply below_alloc | apply pw_below_drewN | apply below_drew1) | exact HB.out)⟩
                · exact absurd rfl c20
              · rw [if_neg c19] at H
                have c19b0 : (t157 == t153) = false := beq_eq_false_iff_ne.mpr c19
                have c19b1 : (t157 != t153) = true := bne_iff_ne.mpr c19
                obtain rfl := Option.some.inj H
                go_wp2_with (first | ((with_reducible refine gate_callee (f := 17) rfl ?_); refine goesL_ (some 33) rfl rfl Tryd.func17 (by kernel_rfl) rfl #[.string t152] rfl (by (try simp only [List.map_toArray, List.map_cons, List.map_nil]); first | done | rfl | (simp only [List.length_drop, List.length_take]; rfl)) ?_; (with_reducible refine (utf_First.calls (HT := (by first | exact HT | exact ⟨HT.out.below (by repeat (first | (with_reducible first | exact HB.out | apply below_alloc | apply pw_below_drewN | apply below_drew1) | exact HB.out | exact Below.refl _ _ | apply Drawn0.below))⟩)) kj5 t152 t156 t157 _ A16.out).mono ?_); rintro e w23 ⟨rfl, hb⟩; refine ⟨_, rfl, ?_⟩; have n0_ := Aside0.mk (below_step (by repeat (first | (with_reducible first | exact HB.out | apply below_alloc | apply pw_below_drewN | apply below_drew1) | exact HB.out)) hb); clear HB; have HB := n0_; clear n0_; (try clear hb); (try clear hb2); (try clear hk); (try clear hi)))
                go_ret
                exact ⟨by first | rfl | (simp [errW_none, errW_some] <;> rfl) | (simp [*, errW_none, errW_some] <;> rfl), by repeat (first | (with_reducible first | exact HB.out | apply below_alloc | apply pw_below_drewN | apply below_drew1) | exact HB.out)⟩
            · rw [if_neg c18] at H
              have c18b0 : (t156 == a0) = false := beq_eq_false_iff_ne.mpr c18
              have c18b1 : (t156 != a0) = true := bne_iff_ne.mpr c18
              obtain rfl := Option.some.inj H
              go_wp2_with (first | ((with_reducible refine gate_callee (f := 17) rfl ?_); refine goesL_ (some 33) rfl rfl Tryd.func17 (by kernel_rfl) rfl #[.string t152] rfl (by (try simp only [List.map_toArray, List.map_cons, List.map_nil]); first | done | rfl | (simp only [List.length_drop, List.length_take]; rfl)) ?_; (with_reducible refine (utf_First.calls (HT := (by first | exact HT | exact ⟨HT.out.below (by repeat (first | (with_reducible first | exact HB.out | apply below_alloc | apply pw_below_drewN | apply below_drew1) | exact HB.out | exact Below.refl _ _ | apply Drawn0.below))⟩)) kj5 t152 t156 t157 _ A16.out).mono ?_); rintro e w24 ⟨rfl, hb⟩; refine ⟨_, rfl, ?_⟩; have n0_ := Aside0.mk (below_step (by repeat (first | (with_reducible first | exact HB.out | apply below_alloc | apply pw_below_drewN | apply below_drew1) | exact HB.out)) hb); clear HB; have HB := n0_; clear n0_; (try clear hb); (try clear hb2); (try clear hk); (try clear hi)))
              go_ret
              exact ⟨by first | rfl | (simp [errW_none, errW_some] <;> rfl) | (simp [*, errW_none, errW_some] <;> rfl), by repeat (first | (with_reducible first | exact HB.out | apply below_alloc | apply pw_below_drewN | apply below_drew1) | exact HB.out)⟩
          · rw [if_neg c17] at H
            have c17b0 : decide (0 < t153) = false := decide_eq_false c17
            clear c17
            by_cases c25 : true = true
            · clear c25
              have H1 : (if t156 = 0 then (some (t157 == 0)) else (some false)) = some r := by rw [if_pos rfl] at H; exact H
              clear H
              have H := H1
              clear H1
              by_cases c26 : t156 = 0
              · rw [if_pos c26] at H
                have c26b0 : (t156 == 0) = true := beq_iff_eq.mpr c26
                have c26b1 : (t156 != 0) = false := bne_eq_false_iff_eq.mpr c26
                clear c26
                obtain rfl := Option.some.inj H
                go_wp2_with (first | ((with_reducible refine gate_callee (f := 17) rfl ?_); refine goesL_ (some 33) rfl rfl Tryd.func17 (by kernel_rfl) rfl #[.string t152] rfl (by (try simp only [List.map_toArray, List.map_cons, List.map_nil]); first | done | rfl | (simp only [List.length_drop, List.length_take]; rfl)) ?_; (with_reducible refine (utf_First.calls (HT := (by first | exact HT | exact ⟨HT.out.below (by repeat (first | (with_reducible first | exact HB.out | apply below_alloc | apply pw_below_drewN | apply below_drew1) | exact HB.out | exact Below.refl _ _ | apply Drawn0.below))⟩)) kj5 t152 t156 t157 _ A16.out).mono ?_); rintro e w27 ⟨rfl, hb⟩; refine ⟨_, rfl, ?_⟩; have n0_ := Aside0.mk (below_step (by repeat (first | (with_reducible first | exact HB.out | apply below_alloc | apply pw_below_drewN | apply below_drew1) | exact HB.out)) hb); clear HB; have HB := n0_; clear n0_; (try clear hb); (try clear hb2); (try clear hk); (try clear hi)))
                go_ret
                exact ⟨by first | rfl | (simp [errW_none, errW_some] <;> rfl) | (simp [*, errW_none, errW_some] <;> rfl), by repeat (first | (with_reducible first | exact HB.out | apply below_alloc | apply pw_below_drewN | apply below_drew1) | exact HB.out)⟩
              · rw [if_neg c26] at H
                have c26b0 : (t156 == 0) = false := beq_eq_false_iff_ne.mpr c26
                have c26b1 : (t156 != 0) = true := bne_iff_ne.mpr c26
                obtain rfl := Option.some.inj H
                go_wp2_with (first | ((with_reducible refine gate_callee (f := 17) rfl ?_); refine goesL_ (some 33) rfl rfl Tryd.func17 (by kernel_rfl) rfl #[.string t152] rfl (by (try simp only [List.map_toArray, List.map_cons, List.map_nil]); first | done | rfl | (simp only [List.length_drop, List.length_take]; rfl)) ?_; (with_reducible refine (utf_First.calls (HT := (by first | exact HT | exact ⟨HT.out.below (by repeat (first | (with_reducible first | exact HB.out | apply below_alloc | apply pw_below_drewN | apply below_drew1) | exact HB.out | exact Below.refl _ _ | apply Drawn0.below))⟩)) kj5 t152 t156 t157 _ A16.out).mono ?_); rintro e w28 ⟨rfl, hb⟩; refine ⟨_, rfl, ?_⟩; have n0_ := Aside0.mk (below_step (by repeat (first | (with_reducible first | exact HB.out | apply below_alloc | apply pw_below_drewN | apply below_drew1) | exact HB.out)) hb); clear HB; have HB := n0_; clear n0_; (try clear hb); (try clear hb2); (try clear hk); (try clear hi)))
                go_ret
                exact ⟨by first | rfl | (simp [errW_none, errW_some] <;> rfl) | (simp [*, errW_none, errW_some] <;> rfl), by repeat (first | (with_reducible first | exact HB.out | apply below_alloc | apply pw_below_drewN | apply below_drew1) | exact HB.out)⟩
            · exact absurd rfl c25
  · replace c3 := Bool.eq_false_iff.mpr c3
    subst c3
    have H1 : (some false) = some r := by rw [if_neg (show ¬ (false = true) by decide)] at H; exact H
    clear H
    have H := H1
    clear H1
    obtain rfl := Option.some.inj H
    go_enter Tryd.func3, Tryd.ntmps3
    go_wp2_with (first | ((with_reducible refine gate_callee (f := 12) rfl ?_); refine goesL_ (some 8) rfl rfl Tryd.func12 (by kernel_rfl) rfl #[] rfl (by (try simp only [List.map_toArray, List.map_cons, List.map_nil]); first | done | rfl | (simp only [List.length_drop, List.length_take]; rfl)) ?_; (with_reducible refine (respelllaw01_shown.calls (HT := (by first | exact HT | exact ⟨HT.out.below (by repeat (first | (with_reducible first | exact HB.out | apply below_alloc | apply pw_below_drewN | apply below_drew1) | exact HB.out | exact Below.refl _ _ | apply Drawn0.below))⟩))  false _ A2.out).mono ?_); rintro e w30 ⟨rfl, hb⟩; refine ⟨_, rfl, ?_⟩; have n0_ := Aside0.mk (below_step (by repeat (first | (with_reducible first | exact HB.out | apply below_alloc | apply pw_below_drewN | apply below_drew1) | exact HB.out)) hb); clear HB; have HB := n0_; clear n0_; (try clear hb); (try clear hb2); (try clear hk); (try clear hi)))
    go_ret
    exact ⟨by first | rfl | (simp [errW_none, errW_some] <;> rfl) | (simp [*, errW_none, errW_some] <;> rfl), by repeat (first | (with_reducible first | exact HB.out | apply below_alloc | apply pw_below_drewN | apply below_drew1) | exact HB.out)⟩
end Go.Proofs.YtalbchgiijoeaaaDoor.G

