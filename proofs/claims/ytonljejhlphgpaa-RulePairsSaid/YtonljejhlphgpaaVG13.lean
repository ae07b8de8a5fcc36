-- Slimmed by slim.py from the text of this name without 'V'.
import Derived.Test.YtonljejhlphgpaaVG0
import Derived.Test.YtonljejhlphgpaaVG7
import Derived.Test.YtonljejhlphgpaaVG10
import Derived.Test.YtonljejhlphgpaaVG11
namespace Go.Proofs.Ytonljejhlphgpaa.G
open Go.RowKit Go.Proofs.YtonljejhlphgpaaW.PrintWords Go.Proofs.YtonljejhlphgpaaW.PrintLast Go.Proofs.YtonljejhlphgpaaW.PrintMore
set_option linter.unusedVariables false
set_option linter.unusedSimpArgs false
def set_Place.f (k : Nat) (l0 : List (S68)) (a1 : Int) : Option (Int × Bool) := (set_Has.f k l0 a1).bind fun t155 => (if t155 = true then ((set_at.f l0 a1).bind fun t156 => (if 0 ≤ t156 then (if t156 ≤ (l0.length : Int) then ((set_Len.f (l0.take (t156 : Int).toNat)).bind fun t161 => (if t156 < (l0.length : Int) then (some (wrap64 ((wrap64 (t161 + a1)) - ((rd_T68 l0 t156).f0)), true)) else (none))) else (none)) else (none))) else (some (0, false)))
theorem set_Place.mono : ∀ a0 a1 k, LeO (set_Place.f k a0 a1) (set_Place.f (k + 1) a0 a1) := by
  intro a0 a1 k
  unfold set_Place.f
  repeat' first
      | (with_reducible exact set_Has.mono _ _ _)
      | (with_reducible exact LeO.refl _)
      | (with_reducible exact LeO.none _)
      | (with_reducible refine LeO.ite ?_ ?_)
      | (with_reducible refine LeO.bind ?_ (fun _ => ?_))
      | exact set_Has.mono _ _ _
      | exact LeO.none _
      | refine LeO.ite ?_ ?_
      | refine LeO.bind ?_ (fun _ => ?_)
def set_Place.T4 : Bool × List (List Nat × List Nat) := (true, [([], []), ([], []), ([0, 1], [0, 1]), ([2], [2]), ([], []), ([3, 4], [3, 4]), ([], []), ([], []), ([6, 7], [6, 7]), ([8], [8]), ([9], [9]), ([5, 10], [5, 10]), ([11, 3, 0, 1, 2, 3, 4, 5, 6, 7, 8, 9, 10, 11], [11]), ([12, 0, 1, 2, 3, 4, 5, 6, 7, 8, 9, 10, 11, 12], [])])
def set_Place.B4 : List Nat := [0, 0, 3, 7, 0, 31, 0, 0, 192, 448, 960, 2047, 4095, 8191]
theorem set_Place.tab4 : rtab .any (opsOf Try.f52 4) = set_Place.T4 := by kernel_rfl
theorem set_Place.bits4 : waitsOk set_Place.T4.2 set_Place.B4 = true := by kernel_rfl
set_option maxHeartbeats 8000000 in
set_option maxRecDepth 100000 in
theorem set_Place.calls (k : Nat) (A0 : Option Addr) (c0 : Nat) (l0 : List (S68)) (a1 : Int) (r1 : Int) (r2 : Bool) (w : World) (hr0 : Kd.C k68 w A0 l0.length l0) (hc0 : l0.length ≤ c0) (h : set_Place.f k l0 a1 = some (r1, r2)) :
    Calls Try.prog 52 #[.slice A0 l0.length c0, .int .i64 a1] w fun e w' => e = .returned (.tuple #[.int .i64 r1, .bool r2]) ∧ Below w.heap.size w w' := by
  have HR0 := Aside0.mk hr0
  have HC0 := Aside0.mk hc0
  clear hr0 hc0
  have HB := Aside0.mk (Below.refl w.heap.size w)
  have H : ((set_Has.f k l0 a1).bind fun t155 => (if t155 = true then ((set_at.f l0 a1).bind fun t156 => (if 0 ≤ t156 then (if t156 ≤ (l0.length : Int) then ((set_Len.f (l0.take (t156 : Int).toNat)).bind fun t161 => (if t156 < (l0.length : Int) then (some (wrap64 ((wrap64 (t161 + a1)) - ((rd_T68 l0 t156).f0)), true)) else (none))) else (none)) else (none))) else (some (0, false)))) = some (r1, r2) := h
  clear h
  replace H := Option.bind_eq_some_iff.mp H
  obtain ⟨t155, A30, H⟩ := H
  replace H : (if t155 = true then ((set_at.f l0 a1).bind fun t156 => (if 0 ≤ t156 then (if t156 ≤ (l0.length : Int) then ((set_Len.f (l0.take (t156 : Int).toNat)).bind fun t161 => (if t156 < (l0.length : Int) then (some (wrap64 ((wrap64 (t161 + a1)) - ((rd_T68 l0 t156).f0)), true)) else (none))) else (none)) else (none))) else (some (0, false))) = some (r1, r2) := H
  have A3 := Aside0.mk A30
  clear A30
  by_cases c4 : t155 = true
  · subst c4
    have H1 : ((set_at.f l0 a1).bind fun t156 => (if 0 ≤ t156 then (if t156 ≤ (l0.length : Int) then ((set_Len.f (l0.take (t156 : Int).toNat)).bind fun t161 => (if t156 < (l0.length : Int) then (some (wrap64 ((wrap64 (t161 + a1)) - ((rd_T68 l0 t156).f0)), true)) else (none))) else (none)) else (none))) = some (r1, r2) := by rw [if_pos rfl] at H; exact H
    clear H
    have H := H1
    clear H1
    replace H := Option.bind_eq_some_iff.mp H
    obtain ⟨t156, A50, H⟩ := H
    replace H : (if 0 ≤ t156 then (if t156 ≤ (l0.length : Int) then ((set_Len.f (l0.take (t156 : Int).toNat)).bind fun t161 => (if t156 < (l0.length : Int) then (some (wrap64 ((wrap64 (t161 + a1)) - ((rd_T68 l0 t156).f0)), true)) else (none))) else (none)) else (none)) = some (r1, r2) := H
    have A5 := Aside0.mk A50
    clear A50
    by_cases c6 : 0 ≤ t156
    · rw [if_pos c6] at H
      have c6b0 := eq_true c6
      have c6b1 : decide (0 ≤ t156) = true := decide_eq_true c6
      clear c6
      by_cases c7 : t156 ≤ (l0.length : Int)
      · rw [if_pos c7] at H
        have c7b0 := eq_true c7
        have c7b1 : decide (t156 ≤ (l0.length : Int)) = true := decide_eq_true c7
        clear c7
        obtain ⟨y157, hy157⟩ : ∃ y_ : List (S68), y_ = (l0.take (t156 : Int).toNat) := ⟨_, rfl⟩
        replace H : ((set_Len.f y157).bind fun t161 => (if t156 < (l0.length : Int) then (some (wrap64 ((wrap64 (t161 + a1)) - ((rd_T68 l0 t156).f0)), true)) else (none))) = some (r1, r2) := by first | (rw [hy157]; with_reducible exact H) | (have H2_ := (Option.bind_some _ _).symm.trans H; rw [hy157]; with_reducible exact H2_) | (have H2_ := (Option.bind_some _ _).symm.trans H; with_reducible exact H2_) | with_reducible exact H | (rw [hy157]; exact H) | exact H
        have Ny157 := Aside0.mk hy157
        clear hy157
        replace H := Option.bind_eq_some_iff.mp H
        obtain ⟨t161, A80, H⟩ := H
        replace H : (if t156 < (l0.length : Int) then (some (wrap64 ((wrap64 (t161 + a1)) - ((rd_T68 l0 t156).f0)), true)) else (none)) = some (r1, r2) := H
        have A8 := Aside0.mk A80
        clear A80
        by_cases c9 : t156 < (l0.length : Int)
        · rw [if_pos c9] at H
          have c9b0 : decide (t156 < (l0.length : Int)) = true := decide_eq_true c9
          clear c9
          simp only [Option.some.injEq, Prod.mk.injEq] at H
          obtain ⟨rfl, rfl⟩ := H
          go_enter Try.func52, Try.ntmps52
          try go_wp2_with (first | ((with_reducible refine gate_callee (f := 19) rfl ?_); refine goesL_ (some 9) rfl rfl Try.func19 (by kernel_rfl) rfl #[.slice A0 l0.length c0, .int .i64 a1] rfl (by (try simp only [List.map_toArray, List.map_cons, List.map_nil]); first | done | rfl | (simp only [List.length_drop, List.length_take]; rfl)) ?_; (with_reducible refine (set_Has.calls k _ _ l0 a1 true _ ?side1 ?side2 A3.out).mono ?_); (case side1 => repeat (first | exact HR0.out | (with_reducible refine Kd.C_alloc ?_ _) | (with_reducible refine Kd.C_drewN ?_ _) | (with_reducible refine Kd.C_drew ?_))); (case side2 => exact HC0.out); rintro e w10 ⟨rfl, hb⟩; refine ⟨_, rfl, ?_⟩; have n0_ := Aside0.mk (below_step (by repeat (first | (with_reducible first | exact HB.out | apply below_alloc | apply pw_below_drewN | apply below_drew1) | exact HB.out)) hb); clear HB; have HB := n0_; clear n0_; (try clear hb); (try clear hb2); (try clear hk); (try clear hi)) | ((with_reducible refine gate_callee (f := 55) rfl ?_); refine goesL_ (some 13) rfl rfl Try.func55 (by kernel_rfl) rfl #[.slice A0 l0.length c0, .int .i64 a1] rfl (by (try simp only [List.map_toArray, List.map_cons, List.map_nil]); first | done | rfl | (simp only [List.length_drop, List.length_take]; rfl)) ?_; (with_reducible refine (set_at.calls _ _ l0 a1 t156 _ ?side1 ?side2 A5.out).mono ?_); (case side1 => repeat (first | exact (Kd.C_below HR0.out HB.out) | exact HR0.out | (with_reducible refine Kd.C_alloc ?_ _) | (with_reducible refine Kd.C_drewN ?_ _) | (with_reducible refine Kd.C_drew ?_))); (case side2 => exact HC0.out); rintro e w11 ⟨rfl, hb⟩; refine ⟨_, rfl, ?_⟩; have n0_ := Aside0.mk (below_step (by repeat (first | (with_reducible first | exact HB.out | apply below_alloc | apply pw_below_drewN | apply below_drew1) | exact HB.out)) hb); clear HB; have HB := n0_; clear n0_; (try clear hb); (try clear hb2); (try clear hk); (try clear hi)))
          have n0_ := Aside0.mk (below_drew1 HB.out)
          clear HB
          have HB := n0_
          clear n0_
          have q13 : (t156 : Int) ≤ ((l0.length : Int) : Int) := of_decide_eq_true (by first | (with_reducible assumption) | assumption)
          obtain ⟨i013, hi013, _, hsz13, _⟩ := info_parts info68
          have hroom13 : l0.length ≤ c0 := HC0.out
          have hC13 : Kd.C k68 _ A0 l0.length l0 := HR0.out
          have hcut13 := cut_to (P := Try.prog) 41 68 .i64 Try.underlying41 hi013 A0 l0.length c0 t156 (of_decide_eq_true (by first | (with_reducible assumption) | assumption)) q13 hroom13
          have hr13 := Kd.C_take (m := (t156 : Int).toNat) hC13 (by omega)
          have hy13 : y157.length = (t156 : Int).toNat := (by rw [Ny157.out, List.length_take]; omega)
          rw [← Ny157.out] at hr13
          rw [← hy13] at hcut13
          have HR160 := Aside0.mk hr13
          have HC160 := Aside0.mk (show y157.length ≤ c0 from by omega)
          clear hr13 hC13 hroom13 hi013 hsz13
          have KY13 := Aside0.mk hy13
          clear hy13
          replace q13 := eq_true q13
          have p162 : 0 ≤ (t156 : Int) := of_decide_eq_true (by first | (with_reducible assumption) | assumption)
          have q162 : t156 < (l0.length : Int) := of_decide_eq_true (by first | (with_reducible assumption) | assumption)
          obtain ⟨ad162, e162, hx162_0, hx162_1⟩ := at_T68 HR0.out t156 p162 q162
          have hw162_1 := hx162_1
          have hw162_0 := hx162_0
          cases e162
          try replace hx162_0 := (HB.out.cell (World.block_lt_of_cell? w _ hx162_0)).trans hx162_0
          try replace hx162_1 := (HB.out.cell (World.block_lt_of_cell? w _ hx162_1)).trans hx162_1
          replace p162 := eq_true p162
          replace q162 := eq_true q162
          refine start_ (n := 14) (S := fun w' => w'.cell? (ad162.add ((t156).toNat * 2)) = some (.int .i64 ((rd_T68 l0 t156).f0)) ∧ w'.cell? ⟨(ad162.add ((t156).toNat * 2)).block, (ad162.add ((t156).toNat * 2)).off + 1, none⟩ = some (.int .i64 ((rd_T68 l0 t156).f1))) (ds := []) #[false, false, false, false, false, false, false, false, false, false, false, false, false, false] (by kernel_rfl) rfl rfl ⟨((HB.out.cell (World.block_lt_of_cell? w _ hw162_0)).trans hw162_0), ((HB.out.cell (World.block_lt_of_cell? w _ hw162_1)).trans hw162_1)⟩ (fun hHeld => ?_); refine with_tabW set_Place.tab4 set_Place.bits4 (fun HT_ HW_ => ?_)
          generalize w11.drew = w12 at HB HR160 hx162_0 hx162_1 hHeld ⊢
          refine pure_ (i := 0) (N := some 14) (v := ?_) (a' := ?_) #[true, false, false, false, false, false, false, false, false, false, false, false, false, false] rfl rfl (any_of HT_.out (by kernel_rfl)) (fun _ _ _ h => h) (Or.inl ⟨by rfl, ?_⟩) ?_ ?_
          rotate_left
          · intro w'
            go_simp
            with_reducible rfl
          rotate_left
          · simp only [Act.put, List.setIfInBounds_toArray, List.set_cons_zero, List.set_cons_succ, i64_w, i32_w]
            rfl
          refine pure_ (i := 1) (N := some 15) (v := ?_) (a' := ?_) #[true, true, false, false, false, false, false, false, false, false, false, false, false, false] rfl rfl (any_of HT_.out (by kernel_rfl)) (fun _ _ _ h => h) (Or.inl ⟨by rfl, ?_⟩) ?_ ?_
          rotate_left
          · intro w'
            go_simp
            with_reducible rfl
          rotate_left
          · simp only [Act.put, List.setIfInBounds_toArray, List.set_cons_zero, List.set_cons_succ, i64_w, i32_w]
            rfl
          refine pure_ (i := 2) (N := some 16) (v := ?_) (a' := ?_) #[true, true, true, false, false, false, false, false, false, false, false, false, false, false] rfl rfl (any_of HT_.out (by kernel_rfl)) (fun _ _ _ h => h) (Or.inl ⟨by rfl, ?_⟩) ?_ ?_
          rotate_left
          · intro w'
            go_simp
            with_reducible rfl
          rotate_left
          · simp only [Act.put, List.setIfInBounds_toArray, List.set_cons_zero, List.set_cons_succ, i64_w, i32_w]
            rfl
          refine pure_ (i := 4) (N := some 18) (v := ?_) (a' := ?_) #[true, true, true, false, true, false, false, false, false, false, false, false, false, false] rfl rfl (any_of HT_.out (by kernel_rfl)) (fun _ _ _ h => h) (Or.inl ⟨by rfl, ?_⟩) ?_ ?_
          rotate_left
          · intro w'
            go_simp
            with_reducible rfl
          rotate_left
          · simp only [Act.put, List.setIfInBounds_toArray, List.set_cons_zero, List.set_cons_succ, i64_w, i32_w]
            rfl
          refine pure_ (i := 6) (N := some 20) (v := ?_) (a' := ?_) #[true, true, true, false, true, false, true, false, false, false, false, false, false, false] rfl rfl (any_of HT_.out (by kernel_rfl)) (fun _ _ _ h => h) (Or.inl ⟨by rfl, ?_⟩) ?_ ?_
          rotate_left
          · intro w'
            go_simp
            with_reducible rfl
          rotate_left
          · simp only [Act.put, List.setIfInBounds_toArray, List.set_cons_zero, List.set_cons_succ, i64_w, i32_w]
            rfl
          refine pure_ (i := 7) (N := some 21) (v := ?_) (a' := ?_) #[true, true, true, false, true, false, true, true, false, false, false, false, false, false] rfl rfl (any_of HT_.out (by kernel_rfl)) (fun _ _ _ h => h) (Or.inl ⟨by rfl, ?_⟩) ?_ ?_
          rotate_left
          · intro w'
            go_simp
            with_reducible rfl
          rotate_left
          · simp only [Act.put, List.setIfInBounds_toArray, List.set_cons_zero, List.set_cons_succ, i64_w, i32_w]
            rfl
          refine pure_ (i := 8) (N := some 22) (v := ?_) (a' := ?_) #[true, true, true, false, true, false, true, true, true, false, false, false, false, false] rfl rfl (any_of HT_.out (by kernel_rfl)) (fun _ _ _ h => h) (Or.inl ⟨by rfl, ?_⟩) ?_ ?_
          rotate_left
          · intro w'
            go_simp
            with_reducible rfl
          rotate_left
          · simp only [Act.put, List.setIfInBounds_toArray, List.set_cons_zero, List.set_cons_succ, i64_w, i32_w]
            rfl
          refine pure_ (i := 9) (N := some 23) (v := ?_) (a' := ?_) #[true, true, true, false, true, false, true, true, true, true, false, false, false, false] rfl rfl (any_of HT_.out (by kernel_rfl)) (fun _ _ _ h => h) (Or.inl ⟨by rfl, ?_⟩) ?_ ?_
          rotate_left
          · intro w'
            go_simp
            with_reducible rfl
          rotate_left
          · simp only [Act.put, List.setIfInBounds_toArray, List.set_cons_zero, List.set_cons_succ, i64_w, i32_w]
            rfl
          refine take_ (i := 10) (N := some 24) (v := ?_) (a' := ?_) #[true, true, true, false, true, false, true, true, true, true, true, false, false, false] rfl rfl (take_ofW HT_.out HW_.out (by kernel_rfl)) (fun _ _ _ h => h) (Or.inl ⟨by rfl, ?_⟩) hHeld ?_ ?_
          rotate_left
          · rintro w' ⟨s0, s1⟩
            go_simp
            with_reducible rfl
          rotate_left
          · simp only [Act.put, List.setIfInBounds_toArray, List.set_cons_zero, List.set_cons_succ, i64_w, i32_w]
            rfl
          refine one_ (i := 3) (N := some 17) #[true, true, true, true, true, false, true, true, true, true, true, false, false, false] rfl rfl (one_of HT_.out (by kernel_rfl)) (by decide) (fun K hK => ?_)
          refine goes_ Try.func22 (by kernel_rfl) rfl #[.slice (some ad162) y157.length c0] (by rfl) rfl rfl (by (try simp only [List.map_toArray, List.map_cons, List.map_nil]); first | done | rfl | (simp only [List.length_drop, List.length_take]; rfl)) ?_
          with_reducible refine (set_Len.calls _ _ y157 t161 _ ?side1 ?side2 A8.out).mono ?_
          (case side1 => repeat (first | exact (Kd.C_below HR160.out HB.out) | exact HR160.out | (with_reducible refine Kd.C_alloc ?_ _) | (with_reducible refine Kd.C_drewN ?_ _) | (with_reducible refine Kd.C_drew ?_)))
          (case side2 => exact HC160.out)
          rintro e w14 ⟨rfl, hb⟩
          refine ⟨_, rfl, ?_⟩
          have n0_ := Aside0.mk (below_step (by repeat (first | (with_reducible first | exact HB.out | apply below_alloc | apply pw_below_drewN | apply below_drew1) | exact HB.out)) hb)
          clear HB
          have HB := n0_
          clear n0_
          (try clear hb)
          (try clear hb2)
          (try clear hk)
          (try clear hi)
          refine hK.out _ _ ⟨((HB.out.cell (World.block_lt_of_cell? w _ hw162_0)).trans hw162_0), ((HB.out.cell (World.block_lt_of_cell? w _ hw162_1)).trans hw162_1)⟩ (fun hHeld => ?_)
          clear hK K
          refine norm_ (a' := ?_) ?_ ?_
          rotate_left
          · show Act.put _ (some 17) _ = _
            simp only [Act.put, List.setIfInBounds_toArray, List.set_cons_zero, List.set_cons_succ, i64_w, i32_w]
            rfl
          refine pure_ (i := 5) (N := some 19) (v := ?_) (a' := ?_) #[true, true, true, true, true, true, true, true, true, true, true, false, false, false] rfl rfl (any_of HT_.out (by kernel_rfl)) (fun _ _ _ h => h) (Or.inl ⟨by rfl, ?_⟩) ?_ ?_
          rotate_left
          · intro w'
            go_simp
            with_reducible rfl
          rotate_left
          · simp only [Act.put, List.setIfInBounds_toArray, List.set_cons_zero, List.set_cons_succ, i64_w, i32_w]
            rfl
          refine pure_ (i := 11) (N := some 25) (v := ?_) (a' := ?_) #[true, true, true, true, true, true, true, true, true, true, true, true, false, false] rfl rfl (any_of HT_.out (by kernel_rfl)) (fun _ _ _ h => h) (Or.inl ⟨by rfl, ?_⟩) ?_ ?_
          rotate_left
          · intro w'
            go_simp
            with_reducible rfl
          rotate_left
          · simp only [Act.put, List.setIfInBounds_toArray, List.set_cons_zero, List.set_cons_succ, i64_w, i32_w]
            rfl
          refine pure_ (i := 12) (N := some 4) (v := ?_) (a' := ?_) #[true, true, true, true, true, true, true, true, true, true, true, true, true, false] rfl rfl (any_of HT_.out (by kernel_rfl)) (fun _ _ _ h => h) (Or.inl ⟨by rfl, ?_⟩) ?_ ?_
          rotate_left
          · intro w'
            go_simp
            with_reducible rfl
          rotate_left
          · simp only [Act.put, List.setIfInBounds_toArray, List.set_cons_zero, List.set_cons_succ, i64_w, i32_w]
            rfl
          refine pure_ (i := 13) (N := some 5) (v := ?_) (a' := ?_) #[true, true, true, true, true, true, true, true, true, true, true, true, true, true] rfl rfl (any_of HT_.out (by kernel_rfl)) (fun _ _ _ h => h) (Or.inl ⟨by rfl, ?_⟩) ?_ ?_
          rotate_left
          · intro w'
            go_simp
            with_reducible rfl
          rotate_left
          · simp only [Act.put, List.setIfInBounds_toArray, List.set_cons_zero, List.set_cons_succ, i64_w, i32_w]
            rfl
          refine done_ (done_of HT_.out (by kernel_rfl)) ?_
          try go_wp2
          go_ret2
          exact ⟨by first | rfl | (simp [errW_none, errW_some] <;> rfl) | (simp [*, errW_none, errW_some] <;> rfl), by repeat (first | (with_reducible first | exact HB.out | apply below_alloc | apply pw_below_drewN | apply below_drew1) | exact HB.out)⟩
        · rw [if_neg c9] at H
          exact absurd H (by simp)
      · rw [if_neg c7] at H
        exact absurd H (by simp)
    · rw [if_neg c6] at H
      exact absurd H (by simp)
  · replace c4 := Bool.eq_false_iff.mpr c4
    subst c4
    have H1 : (some (0, false)) = some (r1, r2) := by rw [if_neg (show ¬ (false = true) by decide)] at H; exact H
    clear H
    have H := H1
    clear H1
    simp only [Option.some.injEq, Prod.mk.injEq] at H
    obtain ⟨rfl, rfl⟩ := H
    go_enter Try.func52, Try.ntmps52
    go_wp2_with (first | ((with_reducible refine gate_callee (f := 19) rfl ?_); refine goesL_ (some 9) rfl rfl Try.func19 (by kernel_rfl) rfl #[.slice A0 l0.length c0, .int .i64 a1] rfl (by (try simp only [List.map_toArray, List.map_cons, List.map_nil]); first | done | rfl | (simp only [List.length_drop, List.length_take]; rfl)) ?_; (with_reducible refine (set_Has.calls k _ _ l0 a1 false _ ?side1 ?side2 A3.out).mono ?_); (case side1 => repeat (first | exact HR0.out | (with_reducible refine Kd.C_alloc ?_ _) | (with_reducible refine Kd.C_drewN ?_ _) | (with_reducible refine Kd.C_drew ?_))); (case side2 => exact HC0.out); rintro e w15 ⟨rfl, hb⟩; refine ⟨_, rfl, ?_⟩; have n0_ := Aside0.mk (below_step (by repeat (first | (with_reducible first | exact HB.out | apply below_alloc | apply pw_below_drewN | apply below_drew1) | exact HB.out)) hb); clear HB; have HB := n0_; clear n0_; (try clear hb); (try clear hb2); (try clear hk); (try clear hi)))
    go_ret2
    exact ⟨by first | rfl | (simp [errW_none, errW_some] <;> rfl) | (simp [*, errW_none, errW_some] <;> rfl), by repeat (first | (with_reducible first | exact HB.out | apply below_alloc | apply pw_below_drewN | apply below_drew1) | exact HB.out)⟩
end Go.Proofs.Ytonljejhlphgpaa.G

